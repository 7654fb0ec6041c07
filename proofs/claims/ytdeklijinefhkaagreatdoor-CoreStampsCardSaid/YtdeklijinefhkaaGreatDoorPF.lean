/- Part of the proof: see the last text. -/
import Derived.Test.YtdeklijinefhkaaGreatDoorPE
import Derived.Test.YtdeklijinefhkaaGreatDoorPA
import Derived.RangeFuncOwn
import Derived.Test.YtdeklijinefhkaaGreatDoorPD
import Derived.Test.YtdeklijinefhkaaGreatDoorProg
import Derived.Test.YtdeklijinefhkaaGreatDoorPB
import Derived.Laws.Externs
import Derived.Shelf.Strings.Builder2
import Derived.Shelf.Strings.Repeat
import Derived.Test.YtdeklijinefhkaaGreatDoorRows
import Derived.ChangeSame
import Derived.MakeChecks
import Derived.LaidMore
set_option linter.all false
set_option maxRecDepth 100000
set_option synthInstance.maxSize 100000
open Array renaming replicate→jL
open Go.IntKind renaming i64→aa
open Int renaming eq_ofNat_of_zero_le→bh
open List renaming nil_append→cQ,cons_append→lY,Perm→cf,map_cons→dx,map_nil→ou
open Nat renaming lt_of_le_of_lt→qJ,le_trans→wJ,le_of_ble_eq_true→aK
open Option renaming some→bA
namespace Go.Den
open Go.RowKit Go.Sep
section
variable {FF:Fence} {n:Nat} {P:Program} {a:Act} {w:World} {Q:Exit->Act->World->Prop}
def C7{J:Nat->Prop}(h:∃k,J k):∃m,J m/\∀k,J k->m<=k:=by
 obtain⟨k,hk⟩:=h
 induction k using Nat.strongRecOn with
 |_ k ih=>
  by_cases hx:∃j,j<k/\J j
  ·obtain⟨j,hj,hJ⟩:=hx;exact ih j hj hJ
  ·refine⟨k,hk,λj hJ=>?_⟩;rcases Nat.lt_or_ge j k with h|h
   ·exact aT ⟨j,h,hJ⟩ hx
   ·exact h
def K2{c:Code}(J:Nat->Act->World->Prop)(h0:∃k,J k a w)
 (hr:∀k a w,J k a w->c.wpIn FF n P (Exit.then (λa' w'=>∃j,j<k/\J j a' w') Q) a w):(Code.loop c).wpIn FF n P Q a w:=by
 classical
 let μ:Act->World->Nat:=λa w=>if h:∃k,J k a w then Classical.choose (C7 h) else 0
 have UJ:∀{a w}(h:∃k,J k a w),J (μ a w) a w/\∀k,J k a w->μ a w<=k:=λ{a w} h=>by
  have e:μ a w=Classical.choose (C7 h):=dif_pos h;rw[e];exact Classical.choose_spec (C7 h)
 refine wpIn_loop (λa w=>∃k,J k a w) μ h0 λa w h=>?_;refine wpIn_mono (hr _ a w (UJ h).1) λex a' w' hq=>?_;cases ex<;>first|exact hq|skip
 obtain⟨j,hj,hJ⟩:=hq;exact⟨⟨j,hJ⟩,qJ ((UJ ⟨j,hJ⟩).2 j hJ) hj⟩
def HA{o:Oper}{x:Operand}{xs:Array Operand}{ts:Array TypeId}{l:Nat}(ho:o.op=.call {callee:=.value x,args:=xs,argTypes:=ts})(hx:a.eval x=.func (.yield l) #[] #[]):
 (execOp a.eval o).run P w=(Instr.yield l (xs.map a.eval)).run P w:=by
 simp only[execOp,ho,resolve,Deferred.ofValue,hx,Sem.run_bind,Sem.run_pure,Result.andThen_ok,invoke,Array.empty_append]
def T7(hW:FF=Fence.wide){g:Operand}{ps:Array Tmp}{assign body:Code}{gf:Nat}{lb:Array Value}(hg:a.eval g=.func (.func gf) #[] lb)
 {fg:Func}(h1:P.funcs[gf]?=some fg)(h2:(fg.name== "runtime.NumGoroutine")=false)(h3:fg.body.isNone=false)
 (h:∀fn,CallsIn FF (n-1) P gf (#[.func (.yield (w.heap.size+1)) #[] #[]]++lb) ((w.alloc (.deferred (some []))).alloc (.loop {state:=.ready,pending:=none,fn,tmps:=a.tmps,params:=ps,assign,body,defers:=w.heap.size}))
  (rangePost FF n P (w.heap.size+1) Q {a with defers:={target:=.collected w.heap.size,args:=#[]}::a.defers})):(Code.rangeFunc g ps assign body).wpIn FF n P Q a w:=by
 subst hW;apply wpIn_rangeFunc;intro fn S5;obtain⟨W1,hW1⟩:∃W1,(w.alloc (.deferred (some []))).alloc (.loop {state:=.ready,pending:=none,fn:=fn,tmps:=a.tmps,params:=ps,assign:=assign,body:=body,defers:=w.heap.size})=W1:=⟨_,rfl⟩;have h:=h fn;rw[hW1] at h;refine⟨w.heap.size+1,[{target:=.collected w.heap.size,args:=#[]}],W1,{target:=.fn (.func gf) lb,args:=#[.func (.yield (w.heap.size+1)) #[] #[]]},W1,gf,
  #[.func (.yield (w.heap.size+1)) #[] #[]]++lb,W1,?_,?_,?_,?_,?_,?_⟩
 ·rw[<-hW1];exact run_enterLoop_outer _ _ _ _ _
 ·simp only[resolve,hg];simp[go_sem]
 ·intro f' hf';exact trivial
 ·simp only[invoke];exact BQ h1 h2 h3 _
 ·intro hd;cases hd
 ·simpa only[lY,cQ] using h
end
end Go.Den
namespace Go.Sep
open Go.Den Go.RowKit
def Tp{w:World}{b:Nat}{o:Obj}(hb:b<w.heap.size)(ho:∀c t fz,o≠.cells c t fz):view (w.putObj b o) b=some (.obj o):=by
 unfold view;rw[World.putObj_heap_same hb];cases o<;>first|rfl|exact aT rfl (ho _ _ _)
def St.abg{W w:World}{L:LH}(h:St W w L)(o:Obj)(ho:∀c t fz,o≠.cells c t fz):St W (w.alloc o) (ob w.heap.size o::L):=by
 apply h.ac3 o (x:=.obj o);unfold view;rw[World.alloc_heap_new];cases o<;>first|rfl|exact aT rfl (ho _ _ _)
def St.put{W w:World}{L:LH}{k b:Nat}{o:Obj}(o':Obj)(h:St W w L)(hk:L[k]?=some (ob b o))(ho:∀c t fz,o'≠.cells c t fz):St W (w.putObj b o') (L.set k (ob b o')):=by
 obtain⟨h1,h2⟩:=h.obj hk;have cn:b<w.heap.size:=(Array.getElem?_eq_some_iff.1 h1).1;refine h.ZH hk ⟨h.1.os,h.1.tape,h.1.output,by rw[World.putObj_size];exact h.1.size,λj hj=>?_⟩ (Tp cn ho) λj hj _=>World.putObj_heap_other hj;rw[World.putObj_heap_other (by omega)];exact h.1.block j hj
end Go.Sep
namespace Go.Proofs.YtdeklijinefhkaaGreatDoor
open Go.Den Go.Prog Go.RowKit
noncomputable def T82:Hr:=[(168,eK.u),(169,uu.u),(170,eo.u)]
noncomputable abbrev KP:Den.Fn:=⟨Tryz.prog,T82,[],20,[],[]⟩
noncomputable def c82:Code:=(Tryz.f118.body).getD .skip
noncomputable def q0:Code:=GJ c82
noncomputable def q1:Code:=GJ (yW c82)
noncomputable def q2:Code:=GJ (yW (yW c82))
noncomputable def q3:Code:=GJ (GJ (yW (yW (yW c82))))
noncomputable def rf:Code:=inC (yW (GJ (yW (yW (yW c82)))))
noncomputable def QR:Code:=ahU rf
noncomputable def bd:Code:=ahQ rf
noncomputable def q7:Code:=GJ (yW (yW (yW (yW c82))))
def ab7:Tryz.f118.body=some (.seq q0 (.seq q1 (.seq q2 (.seq (.seq q3 (.block 0 (.rangeFunc (.tmp 11) #[12] QR bd))) (.seq q7 .ret))))):=by kernel_rfl
def Kp:drawn q0=false/\drawn q1=false/\drawn q2=false/\drawn q3=false/\drawn QR=false/\drawn bd=false/\drawn q7=false:=⟨by kernel_rfl,by kernel_rfl,by kernel_rfl,by kernel_rfl,by kernel_rfl,by kernel_rfl,by kernel_rfl⟩
def n82:Tryz.f118.ntmps=20/\Tryz.f118.results=#[.tmp 4]:=⟨by kernel_rfl,by kernel_rfl⟩
def d0(Q:Exit->Env->WK)(p:OA)(n:Int):den KP q0 Q [(1,.i n),(0,.pointer p)]=mk [.pointer p] (λr=>Q .normal [(4,.i 0),(2,.pointer (some (ad r 0))),(1,.i n),(0,.pointer p)]):=by kernel_rfl
def d1(Q:Exit->Env->WK)(r:Nat)(n:Int)(e:Env):den KP q1 Q ((4,.i 0)::(2,.pointer (some (ad r 0)))::(1,.i n)::e)=
 ld (ad r 0) (xP λp=>eK p n (x0 (Q .normal ((9,.tuple ⟨[]⟩)::(8,.i n)::(7,.pointer p)::(4,.i 0)::(2,.pointer (some (ad r 0)))::(1,.i n)::e)))):=by kernel_rfl
def d2(Q:Exit->Env->WK)(e:Env):den KP q2 Q e=mk [.i 0] (λr=>st (ad r 0) (.i 0) (Q .normal ((5,.pointer (some (ad r 0)))::e))):=by kernel_rfl
def d3(Q:Exit->Env->WK)(r5 r:Nat)(v9 v8 v7 v4:Value)(e:Env):den KP q3 Q ((5,.pointer (some (ad r5 0)))::(9,v9)::(8,v8)::(7,v7)::(4,v4)::(2,.pointer (some (ad r 0)))::e)=
 ld (ad r 0) (xP λp=>uu p (λv=>Q .normal ((11,v)::(10,.pointer p)::(5,.pointer (some (ad r5 0)))::(9,v9)::(8,v8)::(7,v7)::(4,v4)::(2,.pointer (some (ad r 0)))::e))):=by kernel_rfl
def das(Q:Exit->Env->WK)(cs:LV)(e:Env):den KP QR Q ((12,.agg ⟨cs⟩)::e)=mk [.u 0,.u 0,.u 0,.u 0,.u 0,.u 0,.u 0,.u 0,.u 0,.u 0,.i 0,.i 0,.i 0,.i 0,.i 0,.i 0] (λr=>cw (cs.length=16) (jY (ad r 0) cs (Q .normal ((6,.pointer (some (ad r 0)))::(12,.agg ⟨cs⟩)::e)))):=by kernel_rfl
def dbd(Q:Exit->Env->WK)(r6 r5 r2:Nat)(cs:LV)(e:Env):den KP bd Q ((6,.pointer (some (ad r6 0)))::(12,.agg ⟨cs⟩)::(5,.pointer (some (ad r5 0)))::(2,.pointer (some (ad r2 0)))::e)=
 ld (ad r2 0) (xP λp=>aJ (ad r6 0) 16 (λGU=>cw True (eo p GU [.u 0,.u 0] 4 (x0 (ld (ad r5 0) (xI .i64 λn=>st (ad r5 0) (.i (aa.wrap (n+1))) (Q .normal ((18,.i (aa.wrap (n+1)))::(17,.i n)::(16,.tuple ⟨[]⟩)::(15,.agg ⟨[.u 0,.u 0]⟩)::(14,.agg ⟨GU⟩)::(13,.pointer p)::(6,.pointer (some (ad r6 0)))::(12,.agg ⟨cs⟩)::(5,.pointer (some (ad r5 0)))::(2,.pointer (some (ad r2 0)))::e)))))))):=by kernel_rfl
def d7(Q:Exit->Env->WK)(r5:Nat)(e:Env):den KP q7 Q ((5,.pointer (some (ad r5 0)))::e)=ld (ad r5 0) (xI .i64 λn=>Q .normal ((4,.i n)::(19,.i n)::(5,.pointer (some (ad r5 0)))::e)):=by kernel_rfl
noncomputable def aci:Hr:=[(220,fw.u)]
noncomputable abbrev Az:Den.Fn:=⟨Tryz.prog,aci,[],22,[],[]⟩
noncomputable def aeK:Code:=(Tryz.f219.body).getD .skip
noncomputable def s0:Code:=GJ aeK
noncomputable def lb:Code:=inC (inC (yW aeK))
noncomputable def s1:Code:=GJ lb
noncomputable def s3:Code:=GJ (inC (GJ (yW lb)))
noncomputable def s4:Code:=yW (yW lb)
def Y8:Tryz.f219.body=some (.seq s0 (.block 0 (.loop (.seq s1 (.seq (.block 1 (.seq (.region 3 (Gd s3) false) (.cond (.tmp 20) .ret .skip))) s4))))):=by kernel_rfl
def GR:drawn s0=false/\drawn s1=false/\drawn s4=false:=⟨by kernel_rfl,by kernel_rfl,by kernel_rfl⟩
def n193:Tryz.f219.ntmps=22/\Tryz.f219.results=#[]:=⟨by kernel_rfl,by kernel_rfl⟩
def ds0(Q:Exit->Env->WK)(y:Value)(r1:Nat):den Az s0 Q [(1,.pointer (some (ad r1 0))),(0,y)]=
 ld (ad r1 0) (xP λp=>fw p (x2 λv1 v2=>(xA 33 λcs=>(xB λb=>mk [.u 0,.u 0,.u 0,.u 0,.u 0,.u 0,.u 0,.u 0,.u 0,.u 0,.i 0,.i 0,.i 0,.i 0,.i 0,.i 0,.u 0,.u 0,.u 0,.u 0,.u 0,.u 0,.u 0,.u 0,.u 0,.u 0,.i 0,.i 0,.i 0,.i 0,.i 0,.i 0,.i 0] (λr=>cw (cs.length=33) (jY (ad r 0) cs (Q .normal ((4,.bool b)::(3,.pointer (some (ad r 0)))::(9,.bool b)::(8,.agg ⟨cs⟩)::(5,.tuple ⟨[.agg ⟨cs⟩,.bool b]⟩)::(7,.tuple ⟨[.agg ⟨cs⟩,.bool b]⟩)::(6,.pointer p)::[(1,.pointer (some (ad r1 0))),(0,y)]))))) v2) v1)):=by kernel_rfl
def ds1(Q:Exit->Env->WK)(b:Bool)(e:Env):den Az s1 Q ((4,.bool b)::e)=br b (Q .normal ((10,.bool b)::(4,.bool b)::e)) (Q (.exit 0) ((10,.bool b)::(4,.bool b)::e)):=by kernel_rfl
def ds3(K:Env->WK)(r3 r1:Nat)(y:Value)(v4:Value):zk Az (Gd s3) ((Gd s3).toList.take 3) K ((4,v4)::(3,.pointer (some (ad r3 0)))::(1,.pointer (some (ad r1 0)))::[(0,y)])=
 aJ (ad r3 16) 16 (λcs=>K ((18,.agg ⟨cs⟩)::(17,.pointer (some (ad r3 16)))::(16,y)::(4,v4)::(3,.pointer (some (ad r3 0)))::(1,.pointer (some (ad r1 0)))::[(0,y)])):=by kernel_rfl
noncomputable def o3:Oper:=((Gd s3)[3]?).getD ⟨none,.move (.tmp 0),0,"",#[],none⟩
def OJ:(Gd s3)[3]?=some o3/\o3.dst=some 19/\o3.op=.call {callee:=.value (.tmp 16),args:=#[.tmp 18],argTypes:=#[85]}/\o3.guard=none/\(Gd s3).size=5:=⟨by kernel_rfl,by kernel_rfl,by kernel_rfl,by kernel_rfl,by kernel_rfl⟩
def ahM(K:Env->WK)(b:Bool)(e:Env):zk Az (Gd s3) ((Gd s3).toList.drop 4) K ((19,.bool b)::e)=K ((20,.bool (!b))::(19,.bool b)::e):=by kernel_rfl
def ds4(Q:Exit->Env->WK)(r3 r1:Nat)(y:Value):den Az s4 Q ((3,.pointer (some (ad r3 0)))::(1,.pointer (some (ad r1 0)))::[(0,y)])=
 aJ (ad r3 0) 33 (λcs0=>mk [.u 0,.u 0,.u 0,.u 0,.u 0,.u 0,.u 0,.u 0,.u 0,.u 0,.i 0,.i 0,.i 0,.i 0,.i 0,.i 0,.u 0,.u 0,.u 0,.u 0,.u 0,.u 0,.u 0,.u 0,.u 0,.u 0,.i 0,.i 0,.i 0,.i 0,.i 0,.i 0,.i 0] (λr=>cw (cs0.length=33) (jY (ad r 0) cs0 (ld (ad r1 0) (xP λp=>fw p (x2 λv1 v2=>(xA 33 λcs=>(xB λb=>cw (cs.length=33) (jY (ad r 0) cs (Q .normal ((4,.bool b)::(15,.bool b)::(14,.agg ⟨cs⟩)::(11,.tuple ⟨[.agg ⟨cs⟩,.bool b]⟩)::(13,.tuple ⟨[.agg ⟨cs⟩,.bool b]⟩)::(12,.pointer p)::(3,.pointer (some (ad r 0)))::(21,.agg ⟨cs0⟩)::(3,.pointer (some (ad r3 0)))::(1,.pointer (some (ad r1 0)))::[(0,y)])))) v2) v1)))))):=by kernel_rfl
end Go.Proofs.YtdeklijinefhkaaGreatDoor
namespace Go.Proofs.YtdeklijinefhkaaGreatDoor
open Go.Sep Go.Den Go.RowKit Go.Prog Go.Md Go.cG Go.Up
section
variable {W:World} {L:LH} {a:Nat} {m0:aA}
def Mid(m0:aA)(b:Up.ba)(hs:List C)(k:Nat):Prop:=∃m,pK b m/\Md.bW m/\Zp m0 m/\DK m0.clock m.ax=k/\hs.length+4* k<=150000
def abI:sj Tryz.prog []:=sj.nil
abbrev Mem(a l D r1 rn r0:Nat)(r:Loop)(n:Int)(b:Up.ba)(hs:List C)(L:LH):LH:=
 ob l (.loop r)::ob D (.deferred (some []))::Sep.pt r1 [.pointer (some (ad a 0))]::Sep.pt rn [.i n]::Sep.pt r0 [.pointer (some (ad a 0))]::cL a (b,hs)::L
def T3(hT:oE Tryz.prog T82)(hm:Tryz.prog.follows .mixedOrders=true){fn:FuncId}{tmps:Array Value}{D l r0 r1 rn j k:Nat}{r:Loop}
 (hr:r={state:=.ready,pending:=none,fn:=fn,tmps:=tmps,params:=#[12],assign:=QR,body:=bd,defers:=D})(h20:tmps.size=20)
 (h5:tmps[5]?=some (.pointer (some (ad rn 0))))(h2:tmps[2]?=some (.pointer (some (ad r0 0)))){P3:HP}{n:Int}{b:Up.ba}{hs:List C}{x:Md.cr}{w:World}
 (jS:St W w (P3::Mem a l D r1 rn r0 r n b hs L))(GC:Mid m0 b hs k)(hx:x∈b.ax)(ho:nH b.clock x){R:Ending->World->Prop}
 (hR:∀n' b' fF k' w',k'<k->Mid m0 b' fF k'->St W w' (P3::Mem a l D r1 rn r0 r n' b' fF L)->R (.returned (.bool true)) w'):
 RoundIn Fence.wide j Tryz.prog l fn (tmps.setIfInBounds 12 (.agg ⟨aN x.move⟩)) QR bd w R:=by
 refine roundIn_of_wpIn trivial ?_;have okF:Ok KP:=⟨hT,abI,hm⟩;have cn:12<tmps.size:=by omega
 have s3:S3 KP [] [(12,.agg ⟨aN x.move⟩),(5,.pointer (some (ad rn 0))),(2,.pointer (some (ad r0 0)))] {tmps:=tmps.setIfInBounds 12 (.agg ⟨aN x.move⟩),defers:=[]}:=by
  refine S3.cons ?_ (S3.cons ?_ (S3.cons ?_ (S3.start rfl ?_)))
  ·show(tmps.setIfInBounds 12 _)[12]?=_;simp[cn]
  ·show(tmps.setIfInBounds 12 _)[5]?=_;rw[Array.getElem?_setIfInBounds_ne (by decide)];exact h5
  ·show(tmps.setIfInBounds 12 _)[2]?=_;rw[Array.getElem?_setIfInBounds_ne (by decide)];exact h2
  ·show(tmps.setIfInBounds 12 _).size=20;simp[h20]
 refine EJ (F:=KP) (.inr ⟨l,rfl⟩) okF Kp.2.2.2.2.1 s3 ?_;rw[das];obtain⟨m,Gy,hg,afv,hov,hlen⟩:=GC;refine T.at ?_ jS;refine uF λr6=>?_;apply ws;intros;intro w1 Bs a1 ha1;have hl1:=(Bs.obj (k:=2) (b:=l) (o:=.loop r) rfl).1;refine⟨_,run_beginRound hl1 (by rw[hr]),?_⟩;have ib:=Bs.put (k:=2) (b:=l) (o:=.loop r) (.loop {r with state:=.busy}) rfl (by simp);refine EJ (F:=KP) (.inr ⟨l,rfl⟩) okF Kp.2.2.2.2.2.1 ha1 ?_;rw[dbd];refine T.at ?_ ib;show T W (Sep.pt r6 (aN x.move)::P3::Mem a l D r1 rn r0 {r with state:=.busy} n b hs L) _;obtain⟨Qs,Qm,m',J9,Yn,U0,ait⟩:=IJ Gy hg afv hx ho;obtain⟨⟨d,hd,-,-⟩,⟨c,hc,-,-⟩,kJ⟩:=Qm;refine qZ (p:=a) λdY=>?_;have kg:=dY.SR x hx;apply ws;intros;show T W _ (eo (some ⟨a,0,none⟩) (aN x.move) (nm 0) 4 _);refine Iu (p:=a) (k:=x) Qs ho.1 kg.xk kg.move.a8 (by decide) hd hc kJ (.inr (.inr rfl)) (λh=>aT h (by decide)) (λh=>aT h (by decide)) (by omega) λfF hx'=>?_;apply ws;intros;intro w3 vU a3 ha3;subst hr;have WI:=(vU.obj (k:=2) (b:=l) (o:=.loop {state:=.busy,pending:=none,fn:=fn,tmps:=tmps,params:=#[12],assign:=QR,body:=bd,defers:=D}) rfl).1;refine⟨_,_,run_endRound none WI,?_⟩;have yR:=(vU.put (k:=2) (b:=l) (o:=.loop {state:=.busy,pending:=none,fn:=fn,tmps:=tmps,params:=#[12],assign:=QR,body:=bd,defers:=D}) (.loop {state:=.ready,pending:=none,fn:=fn,tmps:=tmps,params:=#[12],assign:=QR,body:=bd,defers:=D}) rfl (by simp)).drop;have:=hx'.len;exact hR _ _ _ _ _ (by omega) ⟨m',J9,Yn,U0,rfl,by omega⟩ yR
abbrev yv(l:Nat):Value:=.func (.yield l) #[] #[]
abbrev Vs(b:Bool)(r3 r1 l:Nat):Env:=(4,.bool b)::(3,.pointer (some (ad r3 0)))::(1,.pointer (some (ad r1 0)))::[(0,yv l)]
def ab2(hT:oE Tryz.prog T82)(WU:oE Tryz.prog aci)(hm:Tryz.prog.follows .mixedOrders=true){fn:FuncId}{tmps:Array Value}{D l r0 r1 rn j:Nat}{r:Loop}
 (hr:r={state:=.ready,pending:=none,fn:=fn,tmps:=tmps,params:=#[12],assign:=QR,body:=bd,defers:=D})(h20:tmps.size=20)
 (h5:tmps[5]?=some (.pointer (some (ad rn 0))))(h2:tmps[2]?=some (.pointer (some (ad r0 0)))){n:Int}{b:Up.ba}{hs:List C}{k:Nat}{w:World}
 (jS:St W w (Mem a l D r1 rn r0 r n b hs L))(GC:Mid m0 b hs k){R:Ending->World->Prop}
 (hR:∀n' b' fF k' w',Mid m0 b' fF k'->(∀x∈b'.ax,¬nH b'.clock x)->St W w' (Mem a l D r1 rn r0 r n' b' fF L)->R (.returned (.tuple #[])) w'):
 CallsIn Fence.wide j Tryz.prog 219 #[yv l,.pointer (some (ad r1 0))] w R:=by
 refine callsIn_of_wp Tryz.func219 Y8 trivial ?_ rfl;have okF:Ok Az:=⟨WU,abI,hm⟩;have s0':S3 Az [] [(1,.pointer (some (ad r1 0))),(0,yv l)] {tmps:=#[yv l,.pointer (some (ad r1 0))]++jL (Tryz.f219.ntmps-2) undef,defers:=[]}:=by
  rw[n193.1];refine S3.cons ?_ (S3.cons ?_ (S3.start rfl ?_))
  ·show(#[yv l,.pointer (some (ad r1 0))]++jL 20 undef)[1]?=_;simp
  ·show(#[yv l,.pointer (some (ad r1 0))]++jL 20 undef)[0]?=_;simp
  ·show(#[yv l,.pointer (some (ad r1 0))]++jL 20 undef).size=22;simp
 refine AU (F:=Az) (.inl rfl) okF GR.1 s0' ?_;rw[ds0];have main:∀(bb:Bool)(x:Md.cr)(r3:Nat)(n:Int)(b:Up.ba)(hs:List C)(k:Nat)(w:World)(a1:Act),S3 Az [] (Vs bb r3 r1 l) a1->St W w (Sep.pt r3 (bM x)::Mem a l D r1 rn r0 r n b hs L)->Mid m0 b hs k->
                                                 (if bb then x∈b.ax/\nH b.clock x else ∀x∈b.ax,¬nH b.clock x)->
                                                 (Code.block 0 (.loop (.seq s1 (.seq (.block 1 (.seq (.region 3 (Gd s3) false) (.cond (.tmp 20) .ret .skip))) s4)))).wpIn Fence.wide j Tryz.prog (bodyPost Tryz.prog Tryz.f219 R) a1 w:=by
  intro bb x r3 n b hs k w a1 ha1 tr GC hbb;refine wpIn_block (K2 (λk a1 w=>∃(bb:Bool)(x:Md.cr)(r3:Nat)(n:Int)(b:Up.ba)(hs:List C),S3 Az [] (Vs bb r3 r1 l) a1/\St W w (Sep.pt r3 (bM x)::Mem a l D r1 rn r0 r n b hs L)/\Mid m0 b hs k/\
   (if bb then x∈b.ax/\nH b.clock x else ∀x∈b.ax,¬nH b.clock x)) ⟨k,bb,x,r3,n,b,hs,ha1,tr,GC,hbb⟩ ?_)
  rintro k a1 w ⟨bb,x,r3,n,b,hs,ha1,tr,GC,hbb⟩;refine AU (F:=Az) (.inl rfl) okF GR.2.1 ha1 ?_;rw[ds1];cases bb with
  |false=>
   rw[eu];intro a2 U8;show bodyPost Tryz.prog Tryz.f219 R .normal a2 w;refine⟨U8.2,_,results_none n193.2 _ _ _,?_⟩;exact hR _ _ _ _ _ GC hbb tr.drop
  |true=>
   rw[lC];obtain⟨hx,ho⟩:=hbb;intro a2 U8;have U8:S3 Az [] (Vs true r3 r1 l) a2:=S3.cons (U8.get rfl) (S3.cons (U8.get rfl) (S3.cons (U8.get rfl) (S3.cons (U8.get rfl) U8.nil)));show(Code.seq (.block 1 (.seq (.region 3 (Gd s3) false) (.cond (.tmp 20) .ret .skip))) s4).wpIn Fence.wide j Tryz.prog _ a2 w;refine wpIn_seq (wpIn_block (wpIn_seq ?_));refine Iv (F:=Az) (.inl rfl) okF 3 (by rw[OJ.2.2.2.2];decide) U8 ?_ ?_ (K:=λe w'=>St W w' (Sep.pt r3 (bM x)::Mem a l D r1 rn r0 r n b hs L)/\e=(18,.agg ⟨aN x.move⟩)::(17,.pointer (some (ad r3 16)))::(16,yv l)::Vs true r3 r1 l)
   ·rw[ds3];refine T.at ?_ tr;apply ws;intros;exact λw' fF=>⟨fF,rfl⟩
   ·rintro e a3 w3 ha3 ⟨adg,rfl⟩;rw[OJ.2.2.2.2];show wpOpsIn Fence.wide j Tryz.prog (Gd s3) _ [3,4] a3 w3;rw[wpOpsIn_cons];unfold wpOpIn;simp only[OJ.1];rw[ai (by simp[Region.wanted,OJ.2.2.2.1])];refine⟨λf _=>trivial,?_⟩;have hl:=(adg.obj (k:=1) (b:=l) (o:=.loop r) rfl).1;have e16:a3.eval (.tmp 16)=yv l:=ha3.eval rfl;have e18:a3.eval (.tmp 18)=.agg ⟨aN x.move⟩:=ha3.eval rfl;rw[show Fence.wide.round=none from rfl,Oper.semAt_none,HA OJ.2.2.1 e16,run_yield hl (by rw[hr];simp),Oper.uponIn_round];refine⟨λh=>(by cases h),?_⟩;have e2:((r.params.zip (#[Operand.tmp 18].map a3.eval)).foldl (λtmps(t,a)=>tmps.setIfInBounds t a) r.tmps)=tmps.setIfInBounds 12 (.agg ⟨aN x.move⟩):=by
     rw[hr];simp[e18]
    rw[e2,show r.fn=fn by rw[hr],show r.assign=QR by rw[hr],show r.body=bd by rw[hr]];refine T3 (W:=W) (L:=L) (a:=a) (m0:=m0) hT hm hr h20 h5 h2 adg GC hx ho λn' b' fF k' w' Bt Qt afb=>?_;dsimp only;rw[OJ.2.1];have WT:=S3.put (v:=.bool true) w' (t:=19) ha3 rfl;refine Xc (F:=Az) (.inl rfl) okF 4 (by rw[OJ.2.2.2.2];decide) WT ?_ ?_ (K:=λe w''=>w''=w'/\e=(20,.bool false)::(19,.bool true)::(18,.agg ⟨aN x.move⟩)::(17,.pointer (some (ad r3 16)))::(16,yv l)::Vs true r3 r1 l)
    ·rw[ahM];exact⟨rfl,rfl⟩
    ·rintro e a5 w5 ha5 ⟨rfl,rfl⟩;show(Code.cond (.tmp 20) .ret .skip).wpIn Fence.wide j Tryz.prog _ a5 w5;refine wpIn_cond_false (ha5.eval rfl) (wpIn_skip ?_);show s4.wpIn Fence.wide j Tryz.prog _ a5 w5;have ha6:S3 Az [] ((3,.pointer (some (ad r3 0)))::(1,.pointer (some (ad r1 0)))::[(0,yv l)]) a5:=S3.cons (ha5.get rfl) (S3.cons (ha5.get rfl) (S3.cons (ha5.get rfl) ha5.nil));refine EJ (F:=Az) (.inl rfl) okF GR.2.2 ha6 ?_;rw[ds4];refine T.at ?_ afb;apply ws;intros;rename_i r4;refine T2 (p:=a) (λy hy hoy=>?_) (λHp=>?_)
     ·apply ws;intros;intro w7 WD a7 DW;refine⟨k',Bt,true,y,r4,n',b',fF,S3.cons (DW.get rfl) (S3.cons (DW.get rfl) (S3.cons (DW.get rfl) (S3.cons (DW.get rfl) DW.nil))),?_,Qt,⟨hy,hoy⟩⟩;exact(WD.perm (cf.swap _ _ _)).drop
     ·apply ws;intros;intro w7 WD a7 DW;refine⟨k',Bt,false,zK,r4,n',b',fF,S3.cons (DW.get rfl) (S3.cons (DW.get rfl) (S3.cons (DW.get rfl) (S3.cons (DW.get rfl) DW.nil))),?_,Qt,Hp⟩;exact(WD.perm (cf.swap _ _ _)).drop
 refine T.at ?_ jS;apply ws;intros;refine T2 (p:=a) (λy hy hoy=>?_) (λHp=>?_)
 ·apply ws;intros;rename_i r4;intro w7 WD a7 DW;exact main true y r4 n b hs k w7 a7 (S3.cons (DW.get rfl) (S3.cons (DW.get rfl) (S3.cons (DW.get rfl) (S3.cons (DW.get rfl) DW.nil)))) WD GC ⟨hy,hoy⟩
 ·apply ws;intros;rename_i r4;intro w7 WD a7 DW;exact main false zK r4 n b hs k w7 a7 (S3.cons (DW.get rfl) (S3.cons (DW.get rfl) (S3.cons (DW.get rfl) (S3.cons (DW.get rfl) DW.nil)))) WD GC Hp
end
def eHT(hm:Tryz.prog.follows .mixedOrders=true)(eU:aE Tryz.prog 168 eK.u)(eF:aE Tryz.prog 169 uu.u)(eR:aE Tryz.prog 170 eo.u)(eD:aE Tryz.prog 220 fw.u):aE Tryz.prog 118 va.u:=by
 have hT:oE Tryz.prog T82:=⟨.inl eU,.inl eF,.inl eR,trivial⟩;have WU:oE Tryz.prog aci:=⟨.inl eD,trivial⟩;refine⟨⟨_,Tryz.func118,by kernel_rfl,by kernel_rfl⟩,λargs K w h=>?_⟩;unfold va.u at h;split at h
 rotate_left
 ·exact h.elim
 rename_i p now;obtain⟨W,L,a,b,m,hs,rfl,tr,Gy,hg,hlen,hk⟩:=h;refine(callsIn_wide (n:=0)).1 (callsIn_of_wp_marks Tryz.func118 ab7 trivial ?_ rfl);have okF:Ok KP:=⟨hT,abI,hm⟩;obtain⟨dr0,dr1,dr2,dr3,-,-,dr7⟩:=Kp;have s0':S3 KP [] [(1,.i now),(0,.pointer (some ⟨a,0,none⟩))] {tmps:=⟨[.pointer (some ⟨a,0,none⟩),.i now]⟩++jL (Tryz.f118.ntmps-2) undef,defers:=[]}:=by
  rw[n82.1];refine S3.cons ?_ (S3.cons ?_ (S3.start rfl ?_))
  ·show(#[Value.pointer (some ⟨a,0,none⟩),.i now]++jL 18 undef)[1]?=_;simp
  ·show(#[Value.pointer (some ⟨a,0,none⟩),.i now]++jL 18 undef)[0]?=_;simp
  ·show(#[Value.pointer (some ⟨a,0,none⟩),.i now]++jL 18 undef).size=20;simp
 refine AU (F:=KP) (.inl rfl) okF dr0 s0' ?_;rw[d0];refine T.at ?_ tr;refine uF λr0=>?_;intro w1 Bs a1 ha1;refine AU (F:=KP) (.inl rfl) okF dr1 ha1 ?_;rw[d1];refine T.at ?_ Bs;refine nU rfl (tz ?_);refine Xp (p:=a) (by omega) λadk hx1=>BF ?_;have hl1:=hx1.len;intro w2 ib a2 U8;refine AU (F:=KP) (.inl rfl) okF dr2 U8 ?_;rw[d2];refine T.at ?_ ib;refine uF λrn=>?_;apply ws;intros;intro w3 vU a3 ha3;refine wpIn_seq (AU (F:=KP) (.inl rfl) okF dr3 ha3 ?_);rw[d3];refine T.at ?_ vU;refine nU rfl (tz ?_);unfold uu;refine uF λr1=>?_;intro w4 yR a4 WT;have yR:St W w4 (Sep.pt r1 [.pointer (some (ad a 0))]::Sep.pt rn [.i 0]::Sep.pt r0 [.pointer (some (ad a 0))]::cL a (Go.Up.tick b now,adk)::L):=yR;show(Code.block 0 (.rangeFunc (.tmp 11) #[12] QR bd)).wpIn Fence.wide 0 Tryz.prog _ a4 w4;refine wpIn_block ?_;refine T7 rfl (g:=.tmp 11) (gf:=219) (WT.eval rfl) Tryz.func219 (by kernel_rfl) (by kernel_rfl) λfn=>?_;have ho1:=(yR.abg (.deferred (some [])) (by simp)).abg (.loop {state:=.ready,pending:=none,fn:=fn,tmps:=a4.tmps,params:=#[12],assign:=QR,body:=bd,defers:=w4.heap.size}) (by simp);rw[World.size_alloc] at ho1;have GC:Mid (vn m now) (Go.Up.tick b now) adk (DK (vn m now).clock (vn m now).ax):=⟨vn m now,SD Gy now,Ec hg now,Zp.refl _,rfl,by
  have:DK (vn m now).clock (vn m now).ax<=96:=wJ (List.length_filter_le _ _) hg.some_
  omega⟩
 refine ab2 (W:=W) (L:=L) (a:=a) (m0:=vn m now) (r0:=r0) (rn:=rn) (D:=w4.heap.size) (tmps:=a4.tmps) hT WU hm rfl WT.1.1.size (WT.get rfl) (WT.get rfl) ho1 GC λn' b' fF k' w5 Qt Hp Qq=>?_;have hl5:=(Qq.obj (k:=0) (b:=w4.heap.size+1) rfl).1;refine⟨_,_,run_endLoop hl5 (by simp),?_⟩;show Exit.inBlock 0 _ .normal _ _;have hs6:=Qq.put (k:=0) (b:=w4.heap.size+1) (.loop {state:=.exhausted,pending:=none,fn:=fn,tmps:=a4.tmps,params:=#[12],assign:=QR,body:=bd,defers:=w4.heap.size}) rfl (by simp);have hs6:St W _ (ob (w4.heap.size+1) (.loop {state:=.exhausted,pending:=none,fn:=fn,tmps:=a4.tmps,params:=#[12],assign:=QR,body:=bd,defers:=w4.heap.size})::ob w4.heap.size (.deferred (some []))::Sep.pt r1 [.pointer (some (ad a 0))]::Sep.pt rn [.i n']::Sep.pt r0 [.pointer (some (ad a 0))]::cL a (b',fF)::L):=hs6;show(Code.seq q7 .ret).wpIn Fence.wide 0 Tryz.prog _ _ _;have ha5:S3 KP [{target:=.collected w4.heap.size,args:=#[]}] [(5,.pointer (some (ad rn 0)))] {a4 with defers:={target:=.collected w4.heap.size,args:=#[]}::a4.defers}:=by
  refine S3.cons (WT.get rfl) ⟨⟨⟨WT.1.1.size,rfl,λt v hl=>by simp[lk] at hl⟩,WT.1.2⟩,?_⟩;show _::a4.defers=_;rw[WT.2]
 refine AU (F:=KP) (.inl rfl) okF dr7 ha5 ?_;rw[d7];refine T.at ?_ hs6;refine nU (r:=rn) (o:=0) rfl (kd ?_);intro w7 WD a7 DW;show Code.ret.wpIn Fence.wide 0 Tryz.prog _ a7 w7;refine wpIn_ret ?_;show LeavesInM _ _ _ _ _ _ a7.defers _ _;rw[DW.2];have hD:=(WD.obj (k:=1) (b:=w4.heap.size) rfl).1;have hs8:=WD.put (k:=1) (b:=w4.heap.size) (.deferred none) rfl (by simp);refine⟨by simp,.inl ⟨_,_,rfl,run_takeDeferred hD,?_⟩⟩;refine⟨_,results_tmp n82.2 _ _ _,_,rfl,?_⟩;have e4:a7.tmps.getD 4 undef=.i n':=by rw[Array.getD_eq_getD_getElem?,DW.get (t:=4) rfl];rfl
 rw[e4];obtain⟨m',J9,Yn,U0,-,adx⟩:=Qt;have:=IK J9 U0 Hp;rw[<-JB] at this;subst this;exact hk n' b' fF _ J9 Yn (by omega) hs8.drop.drop.drop.drop.drop
end Go.Proofs.YtdeklijinefhkaaGreatDoor
namespace Go.Proofs.YtdeklijinefhkaaGreatDoor
open Go.Den Go.Prog
noncomputable abbrev P:Program:=Tryz.prog
def mixed:P.follows .mixedOrders=true:=by kernel_rfl
def eqs:Td:=[(45,[.u 0,.u 0]),(61,eG),(85,iL),(87,cN)]
def aak:sj P eqs:=sj.cons (by kernel_rfl) (by kernel_rfl) Tryz.underlying45 (sj.cons (by kernel_rfl) (by kernel_rfl) Tryz.underlying61 (sj.cons (by kernel_rfl) (by kernel_rfl) Tryz.underlying85 (sj.cons (by kernel_rfl) (by kernel_rfl) Tryz.underlying87 sj.nil)))
def t0:oE P []:=trivial
def tk{T:Hr}{g:Nat}{p:WP}(e:aE P g p)(h:oE P T):oE P ((g,p)::T):=⟨.inl e,h⟩
def tx{T:Hr}{g:Nat}{p:WP}(e:Zo P g p)(h:oE P T):oE P ((g,p)::T):=⟨.inr e,h⟩
section
variable {g1 g2 g3 g4 g5 g6 g7 g8:Nat} {p1 p2 p3 p4 p5 p6 p7 p8:WP}
def t1(a:aE P g1 p1):oE P [(g1,p1)]:=tk a t0
def t2(a:aE P g1 p1)(b:aE P g2 p2):oE P [(g1,p1),(g2,p2)]:=tk a (t1 b)
def t3(a:aE P g1 p1)(b:aE P g2 p2)(c:aE P g3 p3):oE P [(g1,p1),(g2,p2),(g3,p3)]:=tk a (t2 b c)
def t4(a:aE P g1 p1)(b:aE P g2 p2)(c:aE P g3 p3)(d:aE P g4 p4):oE P [(g1,p1),(g2,p2),(g3,p3),(g4,p4)]:=tk a (t3 b c d)
def t5(a:aE P g1 p1)(b:aE P g2 p2)(c:aE P g3 p3)(d:aE P g4 p4)(e:aE P g5 p5):oE P [(g1,p1),(g2,p2),(g3,p3),(g4,p4),(g5,p5)]:=tk a (t4 b c d e)
def t6(a:aE P g1 p1)(b:aE P g2 p2)(c:aE P g3 p3)(d:aE P g4 p4)(e:aE P g5 p5)(f:aE P g6 p6):oE P [(g1,p1),(g2,p2),(g3,p3),(g4,p4),(g5,p5),(g6,p6)]:=tk a (t5 b c d e f)
end
def fi{n k:Nat}{f g:WK}{w:World}(h:f w)(e:f=g:=by kernel_rfl)(l:Nat.ble n k=true:=by rfl):n<=k/\g w:=⟨aK l,e▸h⟩
def em{T:Hr}{g:Nat}{fn:Func}{p:WP}(m:List Nat)(Kv:List (Nat×List (Nat×Value)))(hT:oE P T)(hf:P.funcs[g]?=some fn)
 (hp:∀args K w,p args K w->args.length<=fn.ntmps/\body P T eqs fn.ntmps m Kv fn.results.toList (fn.body.getD .skip) args K w)(hs:fn.body.isSome=true:=by rfl)(hn:(fn.name== "runtime.NumGoroutine")=false:=by decide):aE P g p:=
 Vh m Kv hT aak mixed hf (by obtain⟨c,hc⟩:=Option.isSome_iff_exists.1 hs;rw[hc];rfl) hn hp
def en{T:Hr}{g:Nat}{fn:Func}{p:WP}(Kv:List (Nat×List (Nat×Value)))(hT:oE P T)(hf:P.funcs[g]?=some fn)
 (hp:∀args K w,p args K w->args.length<=fn.ntmps/\body P T eqs fn.ntmps [] Kv fn.results.toList (fn.body.getD .skip) args K w)(hs:fn.body.isSome=true:=by rfl)(hn:(fn.name== "runtime.NumGoroutine")=false:=by decide):aE P g p:=em [] Kv hT hf hp hs hn
def e0{T:Hr}{g:Nat}{fn:Func}{p:WP}(hT:oE P T)(hf:P.funcs[g]?=some fn)
 (hp:∀args K w,p args K w->args.length<=fn.ntmps/\body P T eqs fn.ntmps [] [] fn.results.toList (fn.body.getD .skip) args K w)(hs:fn.body.isSome=true:=by rfl)(hn:(fn.name== "runtime.NumGoroutine")=false:=by decide):aE P g p:=em [] [] hT hf hp hs hn
def uc{k:List Kd}{F:Fu k}{T:Hr}{g:Nat}{fn:Func}(m:List Nat)(Kv:List (Nat×List (Nat×Value)))(hT:oE P T)(hf:P.funcs[g]?=some fn)
 (e:F=cur k (body P T eqs fn.ntmps m Kv fn.results.toList (fn.body.getD .skip)):=by kernel_rfl)(l:Nat.ble k.length fn.ntmps=true:=by rfl)(hs:fn.body.isSome=true:=by rfl)(hn:(fn.name== "runtime.NumGoroutine")=false:=by decide):aE P g (U k F):=
 em m Kv hT hf (λa K w h=>by subst e;obtain⟨h1,h2⟩:=CC k _ h;exact⟨by rw[h1];exact aK l,h2⟩) hs hn
def ub{k:List Kd}{F:Fu k}{T:Hr}{g:Nat}{fn:Func}(Kv:List (Nat×List (Nat×Value)))(hT:oE P T)(hf:P.funcs[g]?=some fn)
 (e:F=cur k (body P T eqs fn.ntmps [] Kv fn.results.toList (fn.body.getD .skip)):=by kernel_rfl)(l:Nat.ble k.length fn.ntmps=true:=by rfl)(hs:fn.body.isSome=true:=by rfl)(hn:(fn.name== "runtime.NumGoroutine")=false:=by decide):aE P g (U k F):=uc [] Kv hT hf e l hs hn
def ua{k:List Kd}{F:Fu k}{T:Hr}{g:Nat}{fn:Func}(hT:oE P T)(hf:P.funcs[g]?=some fn)
 (e:F=cur k (body P T eqs fn.ntmps [] [] fn.results.toList (fn.body.getD .skip)):=by kernel_rfl)(l:Nat.ble k.length fn.ntmps=true:=by rfl)(hs:fn.body.isSome=true:=by rfl)(hn:(fn.name== "runtime.NumGoroutine")=false:=by decide):aE P g (U k F):=uc [] [] hT hf e l hs hn
def agn:Zo P 277 rV.u:=λargs K w h=>by
 unfold rV.u at h;split at h
 ·rename_i x y c;obtain⟨⟨⟨hx,hy⟩,h0,h1⟩,hk⟩:=h;exact⟨_,_,by rw[run_callFunc_extern Tryz.func277 (by kernel_rfl) (by kernel_rfl) (by kernel_rfl) (e:=add64Entry) (by kernel_rfl),run_add64 x y c hx hy h0 h1];rfl,hk⟩
 ·exact h.elim
def acR:Array Value->Sem Value:=λargs=>do
 let(x,y,b)<-Extern.MathBitsCarry.three "Sub64" args
 pure (Extern.MathBitsCarry.pair ((x+Extern.MathBitsCarry.m64-y-b)%Extern.MathBitsCarry.m64) (if x<y+b then 1 else 0))
def Xt(x y b:Nat)(hb:b<=1)(w:World):(acR #[.u x,.u y,.u b]).run P w=
 .ok (.tuple #[.u (((x+18446744073709551616-y-b)%18446744073709551616:Nat):Int),.u ((if x<y+b then 1 else 0:Nat):Int)]) w:=by
 have:b=0\/b=1:=by omega
 rcases this with rfl|rfl<;>rfl
def ago:Zo P 276 rU.u:=λargs K w h=>by
 unfold rU.u at h;split at h
 ·rename_i x y c;obtain⟨⟨⟨hx,hy,hy2⟩,h0,h1⟩,hk⟩:=h;obtain⟨x,rfl⟩:=bh hx;obtain⟨y,rfl⟩:=bh hy;obtain⟨c,rfl⟩:=bh h0;refine⟨_,_,by rw[run_callFunc_extern Tryz.func276 (by kernel_rfl) (by kernel_rfl) (by kernel_rfl) (e:=acR) (by kernel_rfl),Xt x y c (by omega)];rfl,?_⟩;have a1:(((x+18446744073709551616-y-c)%18446744073709551616:Nat):Int)=((x:Int) -y-c)%18446744073709551616:=by omega
  have a2:((if x<y+c then 1 else 0:Nat):Int)=if(x:Int)<y+c then 1 else 0:=by split<;>split<;>omega
  rw[a1,a2];exact hk
 ·exact h.elim
end Go.Proofs.YtdeklijinefhkaaGreatDoor
namespace Go.Proofs
open Go.Shelf
def Tryz.DP:Go.Shelf.Ren:=⟨λ|169=>155|n=>n,λ|70=>239|9=>9|0=>0|72=>241|37=>159|127=>298|3=>3|5=>5|n=>n,λ|n=>n⟩
theorem Tryz.X6:Go.Proofs.Lays.n169 Tryz.prog Tryz.DP:={
 mixed:=by kernel_rfl
 f169:=Tryz.func155.trans (congrArg some (by kernel_rfl))
 t0:=Tryz.underlying0
 a0:=Tryz.isAgg0
 z0:=Tryz.sizeOf0
 v0:=Tryz.zeroValue0
 t3:=Tryz.underlying3
 a3:=Tryz.isAgg3
 z3:=Tryz.sizeOf3
 v3:=Tryz.zeroValue3
 t9:=Tryz.underlying9
 a9:=Tryz.isAgg9
 z9:=Tryz.sizeOf9
 v9:=Tryz.zeroValue9
 t37:=Tryz.underlying159
 a37:=Tryz.isAgg159
 z37:=Tryz.sizeOf159
 v37:=Tryz.zeroValue159
 t70:=Tryz.underlying239
 a70:=Tryz.isAgg239
 z70:=Tryz.sizeOf239
 v70:=Tryz.zeroValue239
 t72:=Tryz.underlying241
 a72:=Tryz.isAgg241
 z72:=Tryz.sizeOf241
 v72:=Tryz.zeroValue241
 t127:=Tryz.underlying298
 a127:=Tryz.isAgg298
 z127:=Tryz.sizeOf298
 v127:=Tryz.zeroValue298}
theorem Tryz.CF:Builder.Extra Tryz.prog Tryz.DP:={
 sizeBuilder:=by kernel_rfl
 liesBuilder:=by kernel_rfl
 t5:=Tryz.underlying5
 a5:=Tryz.isAgg5
 z5:=Tryz.sizeOf5
 v5:=Tryz.zeroValue5
 infoByte:=by kernel_rfl
 cellsByte:=by kernel_rfl
 sizeByte:=by kernel_rfl
 neB5:=by decide}
open Go.RowKit in
theorem Tryz.Builder_String_any(B b:Nat)(l:List UInt8)(w:World)(h:Lib.IsBuilder 241 5 B b (Lib.byteCells l) w)(hBw:B<=w.heap.size):
 Calls Tryz.prog 155 #[.pointer (some ⟨b,0,none⟩)] w λe w'=>e=.returned (.string ⟨l.toArray⟩)/\Below B w w':=Any.Builder_String_any Tryz.X6 Tryz.CF B b l w h hBw
def Tryz.zB:Go.Shelf.Ren:=⟨λ|105=>110|212=>150|99=>151|165=>152|166=>153|170=>154|169=>155|263=>196|264=>197|206=>198|240=>199|241=>200|276=>243|277=>244|n=>n,λ|9=>9|3=>3|4=>4|20=>20|0=>0|46=>235|109=>236|5=>5|72=>241|76=>244|51=>293|146=>294|53=>43|148=>296|70=>239|37=>159|75=>243|127=>298|164=>333|80=>139|n=>n,λ|n=>n⟩
theorem Tryz.Qc:Go.Proofs.Lays.n105 Tryz.prog Tryz.zB:={
 mixed:=by kernel_rfl
 f99:=Tryz.func151.trans (congrArg some (by kernel_rfl))
 f105:=Tryz.func110.trans (congrArg some (by kernel_rfl))
 f165:=Tryz.func152.trans (congrArg some (by kernel_rfl))
 f166:=Tryz.func153.trans (congrArg some (by kernel_rfl))
 f169:=Tryz.func155.trans (congrArg some (by kernel_rfl))
 f170:=Tryz.func154.trans (congrArg some (by kernel_rfl))
 f206:=Tryz.func198.trans (congrArg some (by kernel_rfl))
 f212:=Tryz.func150.trans (congrArg some (by kernel_rfl))
 f240:=Tryz.func199.trans (congrArg some (by kernel_rfl))
 f241:=Tryz.func200.trans (congrArg some (by kernel_rfl))
 f263:=Tryz.func196.trans (congrArg some (by kernel_rfl))
 f264:=Tryz.func197.trans (congrArg some (by kernel_rfl))
 f276:=Tryz.func243.trans (congrArg some (by kernel_rfl))
 f277:=Tryz.func244.trans (congrArg some (by kernel_rfl))
 t0:=Tryz.underlying0
 a0:=Tryz.isAgg0
 z0:=Tryz.sizeOf0
 v0:=Tryz.zeroValue0
 t3:=Tryz.underlying3
 a3:=Tryz.isAgg3
 z3:=Tryz.sizeOf3
 v3:=Tryz.zeroValue3
 t4:=Tryz.underlying4
 a4:=Tryz.isAgg4
 z4:=Tryz.sizeOf4
 v4:=Tryz.zeroValue4
 t5:=Tryz.underlying5
 a5:=Tryz.isAgg5
 z5:=Tryz.sizeOf5
 v5:=Tryz.zeroValue5
 t9:=Tryz.underlying9
 a9:=Tryz.isAgg9
 z9:=Tryz.sizeOf9
 v9:=Tryz.zeroValue9
 t20:=Tryz.underlying20
 a20:=Tryz.isAgg20
 z20:=Tryz.sizeOf20
 v20:=Tryz.zeroValue20
 t37:=Tryz.underlying159
 a37:=Tryz.isAgg159
 z37:=Tryz.sizeOf159
 v37:=Tryz.zeroValue159
 t46:=Tryz.underlying235
 a46:=Tryz.isAgg235
 z46:=Tryz.sizeOf235
 v46:=Tryz.zeroValue235
 t51:=Tryz.underlying293
 a51:=Tryz.isAgg293
 z51:=Tryz.sizeOf293
 v51:=Tryz.zeroValue293
 t53:=Tryz.underlying43
 a53:=Tryz.isAgg43
 z53:=Tryz.sizeOf43
 v53:=Tryz.zeroValue43
 t70:=Tryz.underlying239
 a70:=Tryz.isAgg239
 z70:=Tryz.sizeOf239
 v70:=Tryz.zeroValue239
 t72:=Tryz.underlying241
 a72:=Tryz.isAgg241
 z72:=Tryz.sizeOf241
 v72:=Tryz.zeroValue241
 t75:=Tryz.underlying243
 a75:=Tryz.isAgg243
 z75:=Tryz.sizeOf243
 v75:=Tryz.zeroValue243
 t76:=Tryz.underlying244
 a76:=Tryz.isAgg244
 z76:=Tryz.sizeOf244
 v76:=Tryz.zeroValue244
 t109:=Tryz.underlying236
 a109:=Tryz.isAgg236
 z109:=Tryz.sizeOf236
 v109:=Tryz.zeroValue236
 t127:=Tryz.underlying298
 a127:=Tryz.isAgg298
 z127:=Tryz.sizeOf298
 v127:=Tryz.zeroValue298
 t146:=Tryz.underlying294
 a146:=Tryz.isAgg294
 z146:=Tryz.sizeOf294
 v146:=Tryz.zeroValue294
 t148:=Tryz.underlying296
 a148:=Tryz.isAgg296
 z148:=Tryz.sizeOf296
 v148:=Tryz.zeroValue296
 t164:=Tryz.underlying333
 a164:=Tryz.isAgg333
 z164:=Tryz.sizeOf333
 v164:=Tryz.zeroValue333}
theorem Tryz.wH:Builder.Extra Tryz.prog Tryz.zB:={
 sizeBuilder:=by kernel_rfl
 liesBuilder:=by kernel_rfl
 t5:=Tryz.underlying5
 a5:=Tryz.isAgg5
 z5:=Tryz.sizeOf5
 v5:=Tryz.zeroValue5
 infoByte:=by kernel_rfl
 cellsByte:=by kernel_rfl
 sizeByte:=by kernel_rfl
 neB5:=by decide}
open Go.RowKit Go.Lib in
theorem Tryz.strings_Repeat(s:ByteArray)(c:Nat)(w:World)(hc:c<=9223372036854775807)(hlen:s.size* c<=140737488355328):
 Calls Tryz.prog 110 #[.string s,.int .i64 c] w λe w'=>e=.returned (.string ⟨(Lib.repeatL s.data.toList c).toArray⟩)/\Below w.heap.size w w':=Any.strings_Repeat Tryz.Qc Tryz.wH s c w hc hlen
open Go.RowKit Go.Lib in
theorem Tryz.X7:Go.Proofs.Lays.n166 Tryz.prog Tryz.zB:={Tryz.Qc with}
open Go.RowKit in
theorem Tryz.Builder_WriteString(B b:Nat)(bs:List Value)(s:ByteArray)(w:World)(h:Lib.IsBuilder 241 5 B b bs w)(hlen:bs.length+s.size<=140737488355328)(hBw:B<=w.heap.size):
 Calls Tryz.prog 153 #[.pointer (some ⟨b,0,none⟩),.string s] w λe w'=>e=.returned (.tuple #[.int .i64 s.size,.nilIface])/\(Lib.BuilderAt 241 5 B b (.pointer (some ⟨b,0,none⟩)) (bs++Lib.strCells s) w'/\Below B w w'):=Any.Builder_WriteString Tryz.X7 Tryz.wH B b bs s w h hlen hBw
end Go.Proofs
namespace Go.Proofs.YtdeklijinefhkaaGreatDoor
open Go.Den Go.Prog
def PM(l:List UInt8):∀n,FU l n=Go.Lib.repeatL l n
 |0=>rfl
 |n+1=>by simp[FU,Go.Lib.repeatL,PM l n]
def aeC:aE P 110 strings_Repeat.u:=⟨⟨_,Tryz.func110,rfl,rfl⟩,λargs K w h=>by
 unfold strings_Repeat.u at h
 split at h
 ·rename_i s n
  obtain⟨⟨h0,h1,h2⟩,hk⟩:=h
  obtain⟨m,rfl⟩:=bh h0
  refine(Go.Proofs.Tryz.strings_Repeat s m w (by omega) (by simpa using h1)).mono λe w' ⟨he,hb⟩=>⟨_,he,?_⟩
  rw[<-PM];exact hk w' hb
 ·exact h.elim⟩
def ahm:aE P 153 iI.u:=⟨⟨_,Tryz.func153,rfl,rfl⟩,λargs K w h=>by
 unfold iI.u at h
 split at h
 ·rename_i p s
  obtain⟨B,b,l,rfl,hb,hl,hB,hk⟩:=h
  refine(Go.Proofs.Tryz.Builder_WriteString B b (Go.Lib.byteCells l) s w hb (by simpa [Go.Lib.byteCells] using hl) hB).mono λe w' ⟨he,hbb,hbl⟩=>⟨_,he,hk w' (.inr ?_) hbl⟩
  have e:Go.Lib.byteCells (l++s.data.toList)=Go.Lib.byteCells l++Go.Lib.strCells s:=by simp[Go.Lib.byteCells,Go.Lib.strCells]
  rw[e];exact hbb
 ·exact h.elim⟩
def ahl:aE P 155 kj.u:=⟨⟨_,Tryz.func155,rfl,rfl⟩,λargs K w h=>by
 unfold kj.u at h
 split at h
 ·obtain⟨B,b,l,rfl,hb,hB,hk⟩:=h
  exact(Go.Proofs.Tryz.Builder_String_any B b l w hb hB).mono λe w' ⟨he,hbl⟩=>⟨_,he,hk w' hbl⟩
 ·exact h.elim⟩
def e73:aE P 73 (U [] rr):=ua (t1 aeC) Tryz.func73
def e36:aE P 36 (U [.n] um):=ub [(3,[(2,vp),(3,vq),(8,vi),(9,vi)])] (t1 e73) Tryz.func36
def e45:aE P 45 (U [.s] oO):=ua t0 Tryz.func45
def e98:aE P 98 (U [.p,.n] fr):=ua t0 Tryz.func98
def OG:aE P 46 aM.u:=en [(3,[(4,vi),(5,vi),(13,vl),(14,vi),(15,vi)])] (t1 e98) Tryz.func46 λa K w h=>by unfold aM.u at h;split at h;exact fi h;exact h.elim
def ahL:aE P 100 (U [.s] so):=ub [(5,[(2,vq),(3,vb),(4,vq),(10,vi)])] t0 Tryz.func100
def e51:aE P 51 cX.u:=e0 (t2 e98 ahL) Tryz.func51 λa K w h=>by unfold cX.u at h;split at h;exact fi h;exact h.elim
def e99:aE P 99 cK.u:=e0 t0 Tryz.func99 λa K w h=>by unfold cK.u at h;split at h;exact fi h;exact h.elim
def e48:aE P 48 om.u:=e0 (t3 OG e51 e99) Tryz.func48 λa K w h=>by unfold om.u at h;split at h;exact fi h;exact h.elim
def e47:aE P 47 (U [.p,.v] kU):=ub [(3,[(4,vl),(5,vl),(7,vi),(8,vi)])] (t3 e48 OG e99) Tryz.func47
def e50:aE P 50 m9.u:=e0 (t3 OG e51 e99) Tryz.func50 λa K w h=>by unfold m9.u at h;split at h;exact fi h;exact h.elim
def e49:aE P 49 (U [.p,.v] kf):=ub [(3,[(4,vl),(5,vl),(7,vi),(8,vi)])] (t3 OG e99 e50) Tryz.func49
def e52:aE P 52 (U [.p] mV):=ua (t1 OG) Tryz.func52
def e53:aE P 53 (U [.p,.v] qm):=ub [(3,[(4,vl),(5,vl),(7,vi),(8,vi)])] (t3 OG e51 e99) Tryz.func53
def e54:aE P 54 (U [.p] kE):=ua t0 Tryz.func54
def aeH:aE P 101 (U [.g] uz):=ua t0 Tryz.func101
def aeG:aE P 102 (U [.g] iy):=ua t0 Tryz.func102
def ab1:aE P 103 (U [.g] ju):=ua t0 Tryz.func103
def ab0:aE P 104 (U [.g] fZ):=ua t0 Tryz.func104
def e55:aE P 55 (U [.g] pY):=ub [(6,[(2,vb),(20,vl),(21,vi),(22,vi)]),(13,[(2,vb),(33,vl),(34,vi),(35,vi)])] (t4 aeH aeG ab1 ab0) Tryz.func55
def e16:aE P 16 (U [.s] jn):=ua (tk e45 (tk OG (tk e47 (tk e49 (tk e51 (tk e52 (tk e53 (tk e54 (tk e55 t0))))))))) Tryz.func16
def e38:aE P 38 (U [.p] fH):=ua t0 Tryz.func38
def e74:aE P 74 (U [.n] sy):=ua t0 Tryz.func74
def aho:aE P 147 (U [.p] qN):=ua t0 Tryz.func147
def ahj:aE P 157 (U [] xj):=ua t0 Tryz.func157
def ahi:aE P 158 (U [.p] qY):=ua t0 Tryz.func158
def ahh:aE P 159 (U [.p] tw):=ua t0 Tryz.func159
def aeB:aE P 112 (U [] vg):=ua (t3 ahj ahi ahh) Tryz.func112
def aes:aE P 171 (U [.p] nd):=ua t0 Tryz.func171
def agc:aE P 295 (U [.g] uW):=ua t0 Tryz.func295
def YP:aE P 237 (U [.p,.g] dA):=ub [(5,[(3,vq),(4,vi),(5,vb),(6,vu),(7,vi),(8,vu)])] (t1 agc) Tryz.func237
def OH:aE P 188 (U [.p,.g] iv):=ua (t1 YP) Tryz.func188
def agG:aE P 238 (U [.p] qP):=ub [(2,[(2,vl),(3,vi)]),(6,[(30,vl),(31,vi),(32,vi)])] (t1 YP) Tryz.func238
def abS:aE P 189 (U [.p,.g,.n] dZ):=ua (t2 YP agG) Tryz.func189
def Ko:aE P 217 (U [.p,.v] iD):=ua t0 Tryz.func217
def agF:aE P 239 cJ.u:=e0 t0 Tryz.func239 λa K w h=>by unfold cJ.u at h;split at h;exact fi h;exact h.elim
def aeo:aE P 190 (U [.p,.g] iY):=ua (t1 Ko) Tryz.func190
def aga:aE P 297 fR.u:=e0 t0 Tryz.func297 λa K w h=>by unfold fR.u at h;split at h;exact fi h;exact h.elim
def agb:aE P 296 (U [.n,.v] wa):=ub [(2,[(4,vi),(5,vi),(6,vi)])] (t1 aga) Tryz.func296
def abM:aE P 240 (U [.p,.n] mu):=ua (t1 agb) Tryz.func240
def aen:aE P 191 (U [.p,.n,.n] jA):=ua (t1 abM) Tryz.func191
def YT:aE P 192 (U [.p] gv):=ua t0 Tryz.func192
def agE:aE P 241 da.u:=e0 t0 Tryz.func241 λa K w h=>by unfold da.u at h;split at h;exact fi h;exact h.elim
def aem:aE P 193 (U [.p,.g] kh):=ua (t1 Ko) Tryz.func193
def abR:aE P 194 (U [.g] vf):=ua t0 Tryz.func194
def adZ:aE P 298 (U [.g,.g] sz):=ua t0 Tryz.func298
def aed:aE P 242 (U [.p,.n] jz):=uc [1] [(0,[(1,vi)])] (t1 adZ) Tryz.func242
def abQ:aE P 195 (U [.p,.g] mr):=ua (t1 aed) Tryz.func195
def ahn:aE P 148 (U [.l,.l,.n,.n] eQ):=ub [(5,[(8,vp),(9,vi),(10,vp),(46,vl),(47,vi),(48,vi)]),(13,[(8,vp),(9,vi),(10,vp),(77,vl),(78,vi),(79,vi)])] (tk aeB (tk aes (tk OH (tk abS (tk aeo (tk aen (tk YT (tk aem (tk abR (tk abQ t0)))))))))) Tryz.func148
def aeF:aE P 105 (U [.s] pz):=ub [(10,[(2,vp),(3,vi),(4,vp),(5,vi),(6,vi),(8,vi),(9,vl),(38,vi),(39,vi)]),(15,[(2,vp),(3,vi),(4,vp),(5,vi),(6,vi),(9,vl),(10,vl),(47,vi),(48,vi)])] (tk e45 (tk OG (tk e48 (tk e50 (tk e54 (tk e99 (tk aho (tk ahn t0)))))))) Tryz.func105
def aer:aE P 183 (U [.p,.n] pN):=ua t0 Tryz.func183
def YV:aE P 141 (U [.p,.n] ko):=ub [(6,[(4,.s .empty),(5,vi),(6,vi)])] (t1 aer) Tryz.func141
def aef:aE P 235 (U [.i .u32] sR):=ua t0 Tryz.func235
def aee:aE P 236 (U [.i .u32,.s] vN):=ub [(3,[(4,.int .u32 0),(5,.int .u32 0),(10,vi),(11,vi)]),(7,[(4,.int .u32 0),(5,.int .u32 0),(6,vi),(10,vi),(11,vi),(12,vb),(13,vi),(14,.int .u32 0),(15,.s .empty),(16,vi),(17,.int .u8 0),(18,.int .u32 0),(19,.int .u32 0),(20,vi)])] t0 Tryz.func236
def agY:aE P 202 (U [.s] uY):=ua (t2 aef aee) Tryz.func202
def agD:aE P 245 (U [.s,.i .u8] nV):=uc [0] [(1,[(0,.s .empty),(4,.s .empty)])] t0 Tryz.func245
def agC:aE P 246 (U [.s,.i .u8] nt):=uc [0] [(1,[(0,.s .empty),(4,.s .empty)])] t0 Tryz.func246
def agX:aE P 203 (U [.s,.s] il):=ua (t2 agD agC) Tryz.func203
def ael:aE P 204 (U [.g] vr):=ua t0 Tryz.func204
def abT:aE P 161 (U [.s] mn):=ua (t6 e45 OG e98 agY agX ael) Tryz.func161
def aep:aE P 187 (U [.g] vJ):=ua t0 Tryz.func187
def agZ:aE P 201 (U [.s] yy):=ua (t4 e45 OG e54 aep) Tryz.func201
def ahk:aE P 156 (U [.p,.n] pV):=ua (t3 YV abT agZ) Tryz.func156
def ahJ:aE P 111 (U [.p] sO):=ua (t1 ahk) Tryz.func111
def aev:aE P 144 (U [.g,.n] pA):=ua t0 Tryz.func144
def Sl:aE P 140 (U [.n] mS):=ua t0 Tryz.func140
def aeu:aE P 160 (U [.p,.n,.n,.n,.n] jc):=ub [(5,[(10,.s .empty),(11,vb),(12,vq),(48,vi),(49,vi)])] (t6 e38 Sl YV ahm ahl abT) Tryz.func160
def ahI:aE P 113 (U [.g,.p,.n,.n,.n] rq):=ua (t2 aev aeu) Tryz.func113
def e75:aE P 75 (U [.p,.g] xR):=ua (t4 aeF ahJ aeB ahI) Tryz.func75
def ahH:aE P 114 (U [.p,.n,.n] sF):=ua (t1 e38) Tryz.func114
def ahG:aE P 115 (U [.p,.n,.n,.n] fY):=ua (tk e45 (tk OG (tk e99 (tk Sl (tk YV (tk aeu (tk abT t0))))))) Tryz.func115
def e76:aE P 76 (U [.p,.n,.n,.n] lv):=ub [(7,[(8,vp),(9,vl),(10,vi),(11,vq),(12,vl)])] (t2 ahH ahG) Tryz.func76
def e77:aE P 77 (U [.g] rB):=ua t0 Tryz.func77
def ahf:aE P 163 gW.u:=e0 t0 Tryz.func163 λa K w h=>by unfold gW.u at h;split at h;exact fi h;exact h.elim
def agW:aE P 205 (U [.l,.v] mP):=ub [(2,[(4,vi),(5,vb),(8,vl),(9,vi),(10,vi)])] (t1 ahf) Tryz.func205
def YR:aE P 206 jJ.u:=en [(1,[(8,vi),(9,vi)])] t0 Tryz.func206 λa K w h=>by unfold jJ.u at h;split at h;exact fi h;exact h.elim
def aea:aE P 256 (U [.p] gi):=ua t0 Tryz.func256
def aeh:aE P 231 (U [.p,.n] dV):=ua (t1 aea) Tryz.func231
def Sj:aE P 177 (U [.p,.g] dW):=ua (t2 OH aeh) Tryz.func177
def MH:aE P 254 (U [.g] iO):=ua t0 Tryz.func254
def agB:aE P 255 (U [.g] mA):=ua (t1 MH) Tryz.func255
def agU:aE P 208 (U [.g] qH):=ua (t2 MH agB) Tryz.func208
def agT:aE P 209 (U [.g,.g] qI):=ua t0 Tryz.func209
def af8:aE P 305 eH.u:=e0 t0 Tryz.func305 λa K w h=>by unfold eH.u at h;split at h;exact fi h;exact h.elim
def ad':aE P 257 (U [.p] o5):=ua (t1 Ko) Tryz.func257
def ad9:aE P 259 (U [.p,.g] oR):=ua (t1 YP) Tryz.func259
def agA:aE P 258 eL.u:=e0 (t1 ad9) Tryz.func258 λa K w h=>by unfold eL.u at h;split at h;exact fi h;exact h.elim
def agS:aE P 210 (U [.p,.g] m8):=ua (t6 OH abS aeo Ko aea ad') Tryz.func210
def ahe:aE P 164 mz.u:=e0 (t4 Sj agU agT agS) Tryz.func164 λa K w h=>by unfold mz.u at h;split at h;exact fi h;exact h.elim
def af':aE P 303 (U [.p] tP):=ua t0 Tryz.func303
def aec:aE P 252 fO.u:=e0 (t1 af') Tryz.func252 λa K w h=>by unfold fO.u at h;split at h;exact fi h;exact h.elim
def agN:aE P 218 eJ.u:=e0 t0 Tryz.func218 λa K w h=>by unfold eJ.u at h;split at h;exact fi h;exact h.elim
def agl:aE P 280 fp.u:=e0 (t1 abQ) Tryz.func280 λa K w h=>by unfold fp.u at h;split at h;exact fi h;exact h.elim
def af5:aE P 311 (U [.p,.n] jG):=ua (t1 abM) Tryz.func311
def af6:aE P 310 eP.u:=e0 (t2 ad9 af5) Tryz.func310 λa K w h=>by unfold eP.u at h;split at h;exact fi h;exact h.elim
def afT:aE P 326 (U [.p,.n] fN):=uc [1] [(0,[(1,vi)]),(2,[(1,vi),(4,vi),(5,vi)])] (t1 adZ) Tryz.func326
def afZ:aE P 317 (U [.p,.n] qO):=ua (t2 aed afT) Tryz.func317
def ad5:aE P 279 (U [.p,.n] mX):=ub [(4,[(4,vb),(12,vl),(13,vi),(14,vi)])] (t1 afZ) Tryz.func279
def af4:aE P 312 eO.u:=e0 (t1 ad5) Tryz.func312 λa K w h=>by unfold eO.u at h;split at h;exact fi h;exact h.elim
def af0:aE P 316 cI.u:=e0 t0 Tryz.func316 λa K w h=>by unfold cI.u at h;split at h;exact fi h;exact h.elim
def afY:aE P 318 c9.u:=e0 t0 Tryz.func318 λa K w h=>by unfold c9.u at h;split at h;exact fi h;exact h.elim
def af9:aE P 304 (U [.p,.n] tQ):=ub [(1,[])] (tk agl (tk af6 (tk af4 (tk agA (tk agN (tk af8 (tk agF (tk af0 (tk agE (tk afY t0)))))))))) Tryz.func304
def aeb:aE P 253 fP.u:=e0 (t1 af9) Tryz.func253 λa K w h=>by unfold fP.u at h;split at h;exact fi h;exact h.elim
def agV:aE P 207 (U [.p,.l,.l,.v] nA):=ub [(2,[(8,vi),(14,vl),(15,vi),(16,vi)])] (t4 aeb aec ahe YR) Tryz.func207
def ahg:aE P 162 (U [.p,.l,.v,.v] qi):=ub [(3,[(8,vl),(9,vl),(10,vi)])] (t3 agW YR agV) Tryz.func162
def abY:aE P 116 (U [.p,.l] sQ):=ua (t1 ahg) Tryz.func116
def ahc:aE P 166 gB.u:=e0 t0 Tryz.func166 λa K w h=>by unfold gB.u at h;split at h;exact fi h;exact h.elim
def agR:aE P 211 (U [.l,.v] ma):=ub [(2,[(4,vi),(5,vb),(8,vl),(9,vi),(10,vi)])] (t1 ahc) Tryz.func211
def YQ:aE P 214 (U [.g] tu):=ua t0 Tryz.func214
def YO:aE P 261 (U [.g] mH):=ua t0 Tryz.func261
def agz:aE P 260 (U [.g] lu):=ub [(3,[(1,vq),(2,vb),(3,vi),(6,.agg #[]),(7,vi)])] (t2 YQ YO) Tryz.func260
def agy:aE P 262 (U [.g] pg):=ua (t1 MH) Tryz.func262
def adY:aE P 306 (U [.g] rj):=ua t0 Tryz.func306
def agx:aE P 263 (U [.g] kD):=ua (t2 MH adY) Tryz.func263
def aek:aE P 213 (U [.g] fD):=ua (t6 YQ MH agz YO agy agx) Tryz.func213
def abN:aE P 232 (U [.p,.n] dT):=ua (t1 YT) Tryz.func232
def Si:aE P 178 (U [.p,.g] iF):=ua (t2 OH abN) Tryz.func178
def agm:aE P 278 (U [.p,.n,.g] kK):=ua (t2 Ko aeh) Tryz.func278
def aei:aE P 223 (U [.p,.g] lj):=ua (t3 Sj OH agm) Tryz.func223
def ad8:aE P 264 (U [.g,.g] vm):=ua t0 Tryz.func264
def agw:aE P 265 (U [.p,.g] Ae):=ua (t1 Sj) Tryz.func265
def ad7:aE P 266 (U [.p] o7):=ua (t1 YT) Tryz.func266
def af1:aE P 315 (U [.g,.g] uS):=ua t0 Tryz.func315
def Vm:aE P 275 (U [.g,.g] rZ):=ua (t1 af1) Tryz.func275
def af7:aE P 307 (U [.g,.g] y6):=ua (t1 Vm) Tryz.func307
def aej:aE P 221 (U [.g,.g] qx):=ua (tk Vm (tx ago t0)) Tryz.func221
def Vo:aE P 222 (U [.g,.g] qy):=ua (tx agn t0) Tryz.func222
def afU:aE P 325 (U [.g,.g] ji):=ua (t1 Vo) Tryz.func325
def abK:aE P 308 (U [.g,.b] dO):=ua (t2 aej afU) Tryz.func308
def agv:aE P 267 (U [.g,.g] gA):=ua (t4 MH adY af7 abK) Tryz.func267
def adX:aE P 309 (U [.l] y5):=ub [(3,[(2,vq),(3,vb),(4,vq),(8,vl),(9,vi),(10,vi)])] (t1 Vo) Tryz.func309
def agu:aE P 268 (U [.g,.g,.b] oe):=ua (t4 Vo Vm abK adX) Tryz.func268
def agt:aE P 269 (U [.g,.g,.b] mQ):=ua (t4 Vo Vm abK adX) Tryz.func269
def ad6:aE P 270 (U [.p,.g,.g,.b] iG):=ua (tk OH (tk abS (tk aen (tk YT (tk aem (tk abR (tk abQ (tk Ko (tk ad' t0))))))))) Tryz.func270
def agP:aE P 215 (U [.p,.g] qp):=ua (tk Si (tk aek (tk YQ (tk aei (tk YO (tk ad8 (tk agw (tk ad7 (tk agv (tk agu (tk agt (tk ad6 t0)))))))))))) Tryz.func215
def agk:aE P 281 (U [.p,.n,.g] mI):=ua (t2 Ko abN) Tryz.func281
def agL:aE P 224 (U [.p,.g,.n] dh):=ua (t6 Si OH abR Ko ad5 agk) Tryz.func224
def aet:aE P 170 eo.u:=e0 (t5 Sj aej Vo aei agL) Tryz.func170 λa K w h=>by unfold eo.u at h;split at h;exact fi h;exact h.elim
def af3:aE P 313 (U [.g,.g] gJ):=ua (t1 MH) Tryz.func313
def ags:aE P 271 (U [.p,.g] Ai):=ua (t3 Si YO af3) Tryz.func271
def agr:aE P 272 (U [.g,.g] po):=ua (t2 MH Vm) Tryz.func272
def agq:aE P 273 (U [.p,.g] nZ):=ua (t1 Sj) Tryz.func273
def agO:aE P 216 (U [.p,.g] sK):=ua (tk aet (tk Si (tk ad8 (tk ad7 (tk ad6 (tk ags (tk agr (tk agq t0)))))))) Tryz.func216
def ahb:aE P 167 oI.u:=e0 (t4 aek YQ agP agO) Tryz.func167 λa K w h=>by unfold oI.u at h;split at h;exact fi h;exact h.elim
def agQ:aE P 212 (U [.p,.l,.l,.v] mO):=ub [(2,[(8,vi),(14,vl),(15,vi),(16,vi)])] (t4 aeb aec YR ahb) Tryz.func212
def ahd:aE P 165 (U [.p,.l,.v,.v] pF):=ub [(3,[(8,vl),(9,vl),(10,vi)])] (t3 YR agR agQ) Tryz.func165
def ahF:aE P 117 (U [.p,.l] rJ):=ua (t1 ahd) Tryz.func117
def aha:aE P 168 eK.u:=e0 (t1 Ko) Tryz.func168 λa K w h=>by unfold eK.u at h;split at h;exact fi h;exact h.elim
def af2:aE P 314 (U [.p] uH):=ua t0 Tryz.func314
def agp:aE P 274 (U [.p] nY):=ua (t1 af2) Tryz.func274
def agM:aE P 220 fw.u:=e0 (t2 Si agp) Tryz.func220 λa K w h=>by unfold fw.u at h;split at h;exact fi h;exact h.elim
def ag':aE P 169 uu.u:=e0 t0 Tryz.func169 λa K w h=>by unfold uu.u at h;split at h;exact fi h;exact h.elim
def ahD:aE P 119 (U [.p] mg):=ua (t1 aes) Tryz.func119
def ahE:aE P 118 va.u:=eHT mixed aha ag' aet agM
def e78:aE P 78 (U [.p,.g] xz):=ua (t5 aeH abY ahF ahE ahD) Tryz.func78
def e37:aE P 37 (U [.p] kX):=ub [(14,[(2,vp),(3,vi),(6,vp),(10,vq),(59,vl),(60,vi),(61,vi)])] (tk e16 (tk e38 (tk e74 (tk e75 (tk e76 (tk e77 (tk e78 t0))))))) Tryz.func37
def YX:aE P 10 (U [.n] jO):=ua (t3 e36 e37 e38) Tryz.func10
def e62:aE P 62 (U [.g] pX):=ub [(2,[(1,vq),(2,vb),(10,vl),(11,vi),(12,vi)]),(8,[(1,vq),(2,vb),(24,vl),(25,vi),(26,vi)]),(14,[(1,vq),(2,vb),(35,vl),(36,vi),(37,vi)])] (t2 ab1 ab0) Tryz.func62
def S9:aE P 83 (U [.p,.n,.n] bt):=ub [(1,[(9,vi),(10,vi)])] t0 Tryz.func83
def ag3:aE P 181 (U [.g] xO):=ub [(3,[(1,vq),(2,.s .empty),(3,vq),(5,vi)])] t0 Tryz.func181
def YW:aE P 137 (U [.p,.g] mm):=ua (t1 ag3) Tryz.func137
def aey:aE P 131 (U [.p,.g] sS):=ub [(4,[(3,vq),(20,.agg #[]),(21,vi)])] (t3 S9 ab1 YW) Tryz.func131
def e84:aE P 84 (U [.p,.l] lF):=ub [(2,[(12,vl),(13,vi),(14,vi)])] (t2 S9 aey) Tryz.func84
def aex:aE P 132 (U [.p,.g] ri):=ub [(4,[(3,vq),(20,.agg #[]),(21,vi)])] (t3 S9 ab0 YW) Tryz.func132
def e85:aE P 85 (U [.p,.l] kT):=ub [(2,[(12,vl),(13,vi),(14,vi)])] (t2 S9 aex) Tryz.func85
def e86:aE P 86 (U [.p] dN):=ua t0 Tryz.func86
def e40:aE P 40 (U [.g] kW):=ub [(7,[(1,vq),(2,.s .empty),(3,vq),(26,vl),(27,vi),(28,vi)])] (t5 e62 S9 e84 e85 e86) Tryz.func40
def ahv:aE P 133 (U [.p,.l] uZ):=ub [(3,[(4,vl),(5,vl),(10,vl),(11,vi),(12,vi)])] (t1 Sj) Tryz.func133
def ahu:aE P 134 (U [.p,.l] tX):=ub [(3,[(4,vl),(5,vl),(10,vl),(11,vi),(12,vi)])] (t1 Si) Tryz.func134
def agH:aE P 233 (U [.p,.n,.n,.b] gu):=ub [(9,[(8,vl),(9,vi),(10,vi),(11,vl)]),(14,[(8,vl),(11,vl),(12,vi),(13,vi)])] (t1 abM) Tryz.func233
def ag5:aE P 179 (U [.p,.n,.n,.b] oK):=ub [(5,[(8,vl),(9,vl),(22,vl),(23,vi),(24,vi)])] (t2 abN agH) Tryz.func179
def aht:aE P 135 (U [.p,.g] nM):=ub [(3,[(3,vq),(4,vl),(5,vl),(17,vl),(18,vi),(19,vi)])] (t1 ag5) Tryz.func135
def e87:aE P 87 (U [.p,.g] Ku):=ua (t4 aeG ahv ahu aht) Tryz.func87
def ag4:aE P 180 (U [.p,.b] qM):=ua (t1 S9) Tryz.func180
def ahs:aE P 136 (U [.p,.g] px):=ub [(5,[(3,vq),(30,.agg #[]),(31,vi)])] (t3 S9 YW ag4) Tryz.func136
def e88:aE P 88 (U [.g] xN):=ub [(8,[(2,.s .empty),(3,vi),(4,vq),(28,vl),(29,vi),(30,vi)])] (tk e55 (tk S9 (tk e84 (tk e85 (tk e86 (tk ahs (tk YW t0))))))) Tryz.func88
def e57:aE P 57 (U [.p] kL):=ua t0 Tryz.func57
def e18:aE P 18 (U [.p] fK):=ua (t1 e57) Tryz.func18
def e58:aE P 58 (U [.p] mJ):=ua t0 Tryz.func58
def e19:aE P 19 (U [.p] hG):=ua (t1 e58) Tryz.func19
def e23:aE P 23 (U [.p] gZ):=ua t0 Tryz.func23
def e35:aE P 35 (U [.p] hO):=ua t0 Tryz.func35
def e90:aE P 90 (U [.p] uj):=ub [(8,[(2,.s .empty),(3,vq),(31,vl),(32,vi),(33,vi)]),(13,[(2,.s .empty),(3,vq),(42,vl),(43,vi),(44,vi)])] (tk e18 (tk e19 (tk e23 (tk e35 (tk S9 (tk e86 (tk aey (tk aex t0)))))))) Tryz.func90
def e91:aE P 91 (U [.g,.n] qB):=ua (t1 Sl) Tryz.func91
def ahq:aE P 142 (U [.s] xW):=ub [(3,[(2,vq),(3,vq),(14,.agg #[]),(15,vi)])] (t2 e45 OG) Tryz.func142
def e92:aE P 92 (U [.p] oP):=ub [(3,[(2,vi),(3,vi),(9,vi),(10,vi)])] (t3 e38 YV ahq) Tryz.func92
def aeg:aE P 234 (U [.p,.s] ml):=ua t0 Tryz.func234
def ag1:aE P 184 (U [.g] r9):=ua (tk S9 (tk e86 (tk aeC (tk ael (tk aeg (tk aef (tk aee t0))))))) Tryz.func184
def aeq:aE P 186 (U [.p] nh):=ua t0 Tryz.func186
def ag0:aE P 185 (U [.p,.n,.s] ft):=ua (t3 e73 aer aeq) Tryz.func185
def abV:aE P 143 (U [.p,.n,.n,.n,.s] lZ):=uc [4] [(6,[(4,.s .empty),(10,vi),(11,vi)])] (t4 e38 Sl ag1 ag0) Tryz.func143
def abU:aE P 145 (U [.p] l7):=ub [(6,[(2,vi),(14,vl),(15,vi),(16,vi)])] (t1 aeq) Tryz.func145
def e93:aE P 93 (U [.g,.p,.n,.n,.s] rl):=ua (t3 abV aev abU) Tryz.func93
def ahp:aE P 146 (U [.g] wy):=ub [(5,[(2,.s .empty),(3,vi),(4,vq),(20,.agg #[]),(21,vi)])] (t3 S9 e86 aep) Tryz.func146
def e94:aE P 94 (U [.p,.n,.g] vc):=ua (t3 abV abU ahp) Tryz.func94
def e95:aE P 95 (U [.p] kA):=ua t0 Tryz.func95
def e96:aE P 96 (U [.p] jR):=ua t0 Tryz.func96
def e42:aE P 42 (U [.p] iC):=ua (tk e90 (tk e91 (tk e92 (tk e93 (tk e94 (tk e95 (tk e96 t0))))))) Tryz.func42
def aew:aE P 138 (U [.p,.n] jQ):=ua (t1 Sl) Tryz.func138
def ag2:aE P 182 (U [.n,.s] tU):=ua (t3 S9 e86 aeg) Tryz.func182
def ahr:aE P 139 (U [.p,.n,.s] cx):=ua (t5 aew Sl abV abU ag2) Tryz.func139
def e89:aE P 89 (U [.p,.s] jF):=ua (t4 e42 e92 aew ahr) Tryz.func89
def e41:aE P 41 (U [.p,.g] na):=ua (t5 e77 e78 e87 e88 e89) Tryz.func41
def Vp:aE P 12 (U [.p,.s] fA):=ua (t3 e16 e40 e41) Tryz.func12
def e56:aE P 56 (U [.p] qn):=ua (t2 e90 aeF) Tryz.func56
def e17:aE P 17 (U [.p] dG):=ua (t1 e56) Tryz.func17
def e8:aE P 8 (U [] iU):=ua (t4 YX Vp e17 e35) Tryz.func8
def e9:aE P 9 (U [.l] iT):=ub [(3,[(2,vb),(3,vi),(6,vl),(7,vi),(8,vi)])] t0 Tryz.func9
def aeE:aE P 106 (U [.g] dc):=ua t0 Tryz.func106
def aeD:aE P 107 (U [.g] cb):=ua t0 Tryz.func107
def e66:aE P 66 (U [.n,.l,.l,.l] cE):=ub [(4,[(8,vb),(36,vl),(37,vi),(38,vi)]),(10,[(8,vb),(49,vl),(50,vi),(51,vi)]),(16,[(8,vb),(59,vl),(60,vi),(61,vi)])] (t2 aeE aeD) Tryz.func66
def e67:aE P 67 (U [.n,.n] bN):=ub [(5,[(4,.s .empty),(5,vi),(6,vu),(7,.s .empty),(8,vi)])] t0 Tryz.func67
def YU:aE P 149 (U [.g,.n] fX):=ua t0 Tryz.func149
def abZ:aE P 108 (U [.g] dw):=ub [(3,[(1,vq),(2,.s .empty),(3,.s .empty),(4,vi)]),(7,[(1,vq),(2,.s .empty),(3,.s .empty),(4,vi),(5,vi),(6,vi)])] (t1 YU) Tryz.func108
def e68:aE P 68 (U [.g] lR):=ua (t2 e67 abZ) Tryz.func68
def e69:aE P 69 (U [.g] lO):=ua (t2 e67 abZ) Tryz.func69
def e30:aE P 30 (U [.n,.l,.l,.l] gF):=ub [(5,[(8,.s .empty),(9,.s .empty),(28,vl),(29,vi),(30,vi)]),(11,[(8,.s .empty),(9,.s .empty),(44,vl),(45,vi),(46,vi)]),(17,[(8,.s .empty),(9,.s .empty),(60,vl),(61,vi),(62,vi)])] (t4 e66 e67 e68 e69) Tryz.func30
def e24:aE P 24 (U [.n] fL):=ua (t1 e30) Tryz.func24
def e26:aE P 26 (U [.g] jt):=ua t0 Tryz.func26
def aeA:aE P 120 (U [.g] dX):=ua t0 Tryz.func120
def aez:aE P 121 (U [.g] bn):=ua t0 Tryz.func121
def e79:aE P 79 (U [.g] gT):=ub [(4,[(1,vq),(2,vb),(16,vl),(17,vi),(18,vi)]),(10,[(1,vq),(2,vb),(32,vl),(33,vi),(34,vi)])] (t4 aeE aeD aeA aez) Tryz.func79
def abX:aE P 122 (U [.p] ik):=ua t0 Tryz.func122
def ag9:aE P 172 (U [.p] cU):=ub [(1,[(7,vl),(8,vi),(9,vi)])] t0 Tryz.func172
def ahC:aE P 123 (U [.p,.n] kP):=ua (t1 ag9) Tryz.func123
def ahB:aE P 124 (U [.l] mj):=ub [(3,[(2,vl),(3,vl),(6,vl),(7,vi),(8,vi)])] t0 Tryz.func124
def ahA:aE P 125 (U [.l] lE):=ub [(3,[(2,vl),(3,vl),(6,vl),(7,vi),(8,vi)])] t0 Tryz.func125
def ag8:aE P 173 (U [.g] nC):=ua t0 Tryz.func173
def ad4:aE P 285 (U [.g] kB):=ub [(3,[(1,vq),(2,.s .empty),(3,vl),(4,vi)]),(7,[(1,vq),(2,.s .empty),(3,vl),(4,vi),(5,vi),(6,vi)]),(16,[(2,.s .empty),(8,.s .empty),(46,vl),(47,vi),(48,vi)])] (t1 YU) Tryz.func285
def afX:aE P 319 (U [.n,.n] np):=ua t0 Tryz.func319
def agj:aE P 282 (U [.g] bB):=ua (t2 ad4 afX) Tryz.func282
def abL:aE P 283 (U [.p,.g] fx):=ub [(2,[(3,vq),(4,vi),(10,vl),(11,vi),(12,vi)])] t0 Tryz.func283
def agi:aE P 284 (U [.g,.g] ie):=ua t0 Tryz.func284
def agK:aE P 225 (U [.p,.g] kQ):=ua (t3 agj abL agi) Tryz.func225
def Sk:aE P 175 (U [.g,.n] bZ):=ua t0 Tryz.func175
def Vn:aE P 227 (U [.g] gU):=ua (t1 Sk) Tryz.func227
def agh:aE P 286 (U [.g] bS):=ua (t2 Sk Vn) Tryz.func286
def abP:aE P 226 (U [.g] aZ):=ua (t4 Sk Vn ad4 agh) Tryz.func226
def ad3:aE P 287 (U [.p,.g] ig):=ub [(2,[(3,vq),(4,vi),(10,vl),(11,vi),(12,vi)])] t0 Tryz.func287
def ad2:aE P 288 (U [.g,.g] lQ):=ua t0 Tryz.func288
def YN:aE P 289 (U [.g,.g] jd):=ub [(2,[(2,vq),(3,vq),(4,vb),(5,vi)])] (t1 YU) Tryz.func289
def abO:aE P 230 (U [.g,.g] dE):=ua t0 Tryz.func230
def ag6:aE P 176 (U [.g,.g] jK):=ua (t1 abO) Tryz.func176
def abW:aE P 130 (U [.p,.n] au):=ub [(3,[(4,vq),(5,vq),(21,vl),(22,vi),(23,vi)])] (t2 Sk ag6) Tryz.func130
def agf:aE P 290 (U [.p,.g,.n] gL):=ua (t3 abX abW abL) Tryz.func290
def ad1:aE P 291 (U [.p,.g,.g,.n] ij):=ua t0 Tryz.func291
def agJ:aE P 228 (U [.p,.g] az):=ua (tk Sk (tk abP (tk Vn (tk ad3 (tk ad2 (tk YN (tk agf (tk ad1 t0)))))))) Tryz.func228
def age:aE P 292 (U [.g,.g] lN):=ua (t1 YN) Tryz.func292
def afW:aE P 320 (U [] oM):=ua t0 Tryz.func320
def afS:aE P 327 (U [.g,.n] pJ):=ua t0 Tryz.func327
def afV:aE P 321 (U [.g,.g] fW):=ub [(6,[(2,vq),(3,vq),(4,vq),(5,vb),(6,vq),(7,vi),(8,vi)])] (t3 YU YN afS) Tryz.func321
def ad0:aE P 293 (U [.g,.b] dF):=ua (t3 abO afW afV) Tryz.func293
def agd:aE P 294 (U [.g,.b,.g,.b] cm):=ua (t3 abO YN ad0) Tryz.func294
def agI:aE P 229 (U [.p,.g] bY):=ua (tk abW (tk Sk (tk abP (tk Vn (tk abL (tk ad3 (tk ad2 (tk ad1 (tk age (tk ad0 (tk agd t0))))))))))) Tryz.func229
def ag7:aE P 174 (U [.p,.g] jk):=ua (t5 agK abP Vn agJ agI) Tryz.func174
def ahz:aE P 126 (U [.p,.l] cz):=uc [0] [(3,[(0,vp),(4,vl),(5,vp),(6,vl),(7,vi)]),(5,[(0,vp),(4,vl),(5,vp),(6,vl),(7,vi),(8,vi)]),(15,[(0,vp),(4,vl),(5,vp),(6,vl),(7,vi),(8,vi),(9,vi),(10,vi),(11,vp),(12,vi)]),(21,[(0,vp),(4,vl),(5,vp),(6,vl),(7,vi),(8,vi),(9,vi),(10,vi),(11,vp),(13,vi)])] (t3 abX ag8 ag7) Tryz.func126
def e80:aE P 80 (U [.p,.g] jj):=ua (t6 aeA abX ahC ahB ahA ahz) Tryz.func80
def ahy:aE P 127 (U [.l,.l] mh):=ub [(3,[(4,vl),(5,vl),(10,vl),(11,vi),(12,vi)]),(6,[(4,vl),(5,vl),(7,vq),(10,vl),(11,vi),(12,vi),(16,vl),(17,vi),(18,vi)])] t0 Tryz.func127
def ahx:aE P 128 (U [.l,.l] lD):=ub [(3,[(4,vl),(5,vl),(10,vl),(11,vi),(12,vi)]),(6,[(4,vl),(5,vl),(7,vq),(10,vl),(11,vi),(12,vi),(16,vl),(17,vi),(18,vi)])] t0 Tryz.func128
def ahw:aE P 129 (U [.l,.g] bT):=ub [(3,[(3,vq),(4,vl),(5,vl),(10,vi),(11,vi)])] t0 Tryz.func129
def e81:aE P 81 (U [.l,.l,.g] og):=ua (t4 aez ahy ahx ahw) Tryz.func81
def e82:aE P 82 (U [.p] ic):=ub [(3,[(2,vl),(3,vl),(9,vi),(10,vi)])] (t1 abW) Tryz.func82
def e39:aE P 39 (U [.p,.g] lK):=ua (t6 e26 e30 e79 e80 e81 e82) Tryz.func39
def e11:aE P 11 (U [.p,.s] lV):=ua (t3 e16 e24 e39) Tryz.func11
def e13:aE P 13 (U [.p] jM):=ua (t1 e42) Tryz.func13
def e97:aE P 97 (U [.p,.l,.l,.n,.n] db):=ub [(4,[(10,vb),(48,vi),(49,vi)]),(10,[(10,vb),(66,vi),(67,vi)])] t0 Tryz.func97
def e43:aE P 43 (U [.p,.l,.l,.n,.n] jb):=ua (t2 e82 e97) Tryz.func43
def e14:aE P 14 (U [.p,.p] mD):=ua (t6 e17 e18 e19 e23 e35 e43) Tryz.func14
def e44:aE P 44 (U [.p] qL):=ua t0 Tryz.func44
def e15:aE P 15 (U [.p] gr):=ua (t1 e44) Tryz.func15
def e20:aE P 20 (U [.p] k8):=ua t0 Tryz.func20
def e21:aE P 21 (U [.p] k9):=ua t0 Tryz.func21
def e59:aE P 59 (U [.p] rF):=ua (t1 e95) Tryz.func59
def e22:aE P 22 (U [.p] kF):=ua (t1 e59) Tryz.func22
def e61:aE P 61 lG.u:=e0 (t1 OG) Tryz.func61 λa K w h=>by unfold lG.u at h;split at h;exact fi h;exact h.elim
def e60:aE P 60 (U [.p,.v] nS):=ub [(3,[(4,vl),(5,vl),(7,vi),(8,vi)])] (t3 OG e99 e61) Tryz.func60
def e25:aE P 25 (U [.s] qw):=ua (tk e45 (tk OG (tk e47 (tk e49 (tk e54 (tk e60 (tk e62 t0))))))) Tryz.func25
def e63:aE P 63 (U [.p] qK):=ua t0 Tryz.func63
def e27:aE P 27 (U [.p] mW):=ua (t1 e63) Tryz.func27
def e64:aE P 64 (U [.p,.i .u64,.n,.n] ni):=uc [3] [(3,[(3,vi),(18,vl),(19,vi),(20,vi)])] t0 Tryz.func64
def e28:aE P 28 (U [.p,.i .u64,.n,.n] iJ):=ua (t2 e37 e64) Tryz.func28
def e65:aE P 65 (U [.p,.n] oS):=ua t0 Tryz.func65
def e29:aE P 29 (U [.p,.n] nO):=ua (t1 e65) Tryz.func29
def ahK:aE P 109 (U [.b] oL):=ua t0 Tryz.func109
def e70:aE P 70 (U [.g] lM):=ub [(5,[(2,.s .empty),(3,.s .empty),(23,vl),(24,vi),(25,vi)]),(12,[(2,.s .empty),(3,.s .empty),(43,vl),(44,vi),(45,vi)]),(19,[(2,.s .empty),(3,.s .empty),(63,vl),(64,vi),(65,vi)])] (t5 e67 e68 e69 abZ ahK) Tryz.func70
def e31:aE P 31 (U [] iS):=ua (t6 YX Vp e17 e24 e35 e70) Tryz.func31
def e32:aE P 32 (U [.l] pI):=ub [(3,[(2,vb),(3,vi),(6,vl),(7,vi),(8,vi)])] t0 Tryz.func32
def e33:aE P 33 (U [] pG):=ua (t1 YX) Tryz.func33
def e71:aE P 71 (U [.p,.s] pH):=ua (t4 e16 e24 e26 e39) Tryz.func71
def e72:aE P 72 (U [.p,.p] nB):=ua (t6 e17 e18 e19 e23 e35 e43) Tryz.func72
def e34:aE P 34 (U [.p,.g] aP):=ua (tk Vp (tk e13 (tk e15 (tk e24 (tk e28 (tk e29 (tk e71 (tk e72 t0)))))))) Tryz.func34
end Go.Proofs.YtdeklijinefhkaaGreatDoor
namespace Go.Proofs.YtdeklijinefhkaaGreatDoor
open Go.ChangeShapes Go.WideShapes Go.ChangeAt Go.RowKit Go.Den Go.Sep Go.Prog Go.Up
def adj(b j:Nat):(ad b 0).add j=⟨b,j,none⟩:=by
 unfold Addr.add;split
 ·rename_i h;rw[h]
 ·simp
def Vb{W:World}(h:laidMetH Tryz.prog Rows.storeRepliesRow.laid W):oH W:=by
 rw[MakeChecks.laidMetH_plain _ _ _ (by kernel_rfl)] at h;obtain⟨ps,⟨g0,t0,cs0,f0,p0,q0,-,-,-,-,⟨g,t,cs,fuel,p,q,hg,ht,hv,hd,⟨g2,t2,GU,aid,p2,q2,Nt,I4,Qp,WO,-,-⟩,-⟩,-⟩,-,-⟩:=h;obtain rfl:=bA.inj ((show Tryz.prog.globalNamed "bondstore/wide.Most"=some 0 by kernel_rfl).symm.trans hg);obtain rfl:=bA.inj ((show(Tryz.prog.globals[0]?).map (·.type)=some 45 by kernel_rfl).symm.trans ht);obtain rfl:=bA.inj ((show Tryz.prog.globalNamed "bondstore/hold.told"=some 2 by kernel_rfl).symm.trans Nt);obtain rfl:=bA.inj ((show(Tryz.prog.globals[2]?).map (·.type)=some 379 by kernel_rfl).symm.trans I4);have c38:Tryz.prog.cellsOf 43=1:=by kernel_rfl
 have c3:Tryz.prog.cellsOf 126=1:=by kernel_rfl
 have c40:Tryz.prog.cellsOf 45=2:=by kernel_rfl
 have ahP:Tryz.prog.cellsOf 379=5:=by kernel_rfl
 refine⟨?_,?_⟩
 ·obtain⟨y0,y1,n,ex,hl,k0,k1⟩:=trod_struct2 Tryz.underlying45 hd;rw[c40] at hl;obtain⟨l⟩:=cs
  match l,hl with
  |[a,b],_=>
   have e3:=(DataW.agg.inj (Prod.mk.inj ex).1);simp only[List.cons.injEq,and_true] at e3;rw[c38] at k0 k1;obtain⟨z0,a0,b0,_⟩:=DataW.trod_int Tryz.underlying43 k0;obtain⟨z1,a1,b1,_⟩:=DataW.trod_int Tryz.underlying43 k1;have hc:∀i,W.cell? ⟨0,i,none⟩=[a,b][i]?:=λi=>by rw[World.var?_cell hg hv i];simp
   simp at a0 a1;subst b0 b1 a0 a1;simp only[DataW.lit.injEq,Lit.int.injEq,true_and] at e3;obtain⟨rfl,rfl⟩:=e3;intro j v hj;rw[adj,hc];exact hj
 ·obtain⟨xs,m,_,ex,hlen,hl,hel⟩:=DataW.trod_array Tryz.underlying379 WO;rw[ahP] at hlen;obtain⟨l⟩:=GU
  match l,hlen with
  |[a,b,c,d,e],_=>
   match xs,hl with
   |[x0,x1,x2,x3,x4],_=>
    have e3:=(DataW.agg.inj (Prod.mk.inj ex).1);simp only[dx,ou,List.cons.injEq,and_true] at e3;have k0:=hel 0 (by omega);have k1:=hel 1 (by omega);have k2:=hel 2 (by omega);have k3:=hel 3 (by omega);have k4:=hel 4 (by omega);rw[c3] at k0 k1 k2 k3 k4;obtain⟨z0,a0,b0,_⟩:=DataW.trod_int Tryz.underlying126 k0;obtain⟨z1,a1,b1,_⟩:=DataW.trod_int Tryz.underlying126 k1;obtain⟨z2,a2,b2,_⟩:=DataW.trod_int Tryz.underlying126 k2;obtain⟨z3,a3,b3,_⟩:=DataW.trod_int Tryz.underlying126 k3;obtain⟨z4,a4,b4,_⟩:=DataW.trod_int Tryz.underlying126 k4;have hc:∀i,W.cell? ⟨2,i,none⟩=[a,b,c,d,e][i]?:=λi=>by rw[World.var?_cell Nt Qp i];simp
    simp at a0 a1 a2 a3 a4;subst b0 b1 b2 b3 b4 a0 a1 a2 a3 a4;simp only[DataW.lit.injEq,Lit.int.injEq,true_and] at e3;obtain⟨rfl,rfl,rfl,rfl,rfl⟩:=e3;intro j v hj;rw[adj,hc];exact hj
end Go.Proofs.YtdeklijinefhkaaGreatDoor
