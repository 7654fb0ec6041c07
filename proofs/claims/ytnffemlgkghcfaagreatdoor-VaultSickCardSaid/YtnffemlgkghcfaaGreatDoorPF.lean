/- Part of the proof: see the last text. -/
import Derived.Test.YtnffemlgkghcfaaGreatDoorPE
import Derived.Test.YtnffemlgkghcfaaGreatDoorPD
import Derived.Test.YtnffemlgkghcfaaGreatDoorPB
import Derived.Laws.Externs
import Derived.Test.YtnffemlgkghcfaaGreatDoorProg
import Derived.Shelf.Strings.Builder2
import Derived.Shelf.Strings.Repeat
import Derived.Test.YtnffemlgkghcfaaGreatDoorRows
import Derived.ChangeSame
import Derived.MakeChecks
import Derived.LaidMore
set_option linter.all false
set_option maxRecDepth 100000
set_option synthInstance.maxSize 100000
open Array renaming replicate→aeY
open Int renaming eq_ofNat_of_zero_le→ad1
open List renaming map_cons→aer,map_nil→afp
open Nat renaming le_of_ble_eq_true→adX
open Option renaming some→aea
namespace Go.Proofs.YtnffemlgkghcfaaGreatDoor
open Go.Sep Go.Den Go.RowKit Go.Prog Go.Md Go.bu Go.Up
def eHT(hm:Tryz.prog.follows .mixedOrders=true)(eU:Entry Tryz.prog 140 cn.u)(eF:Entry Tryz.prog 141 o9.u)(eR:Entry Tryz.prog 142 cb.u)(eD:Entry Tryz.prog 194 cG.u):Entry Tryz.prog 82 pT.u:=by
 have hT:kk Tryz.prog Z5:=⟨.inl eU,.inl eF,.inl eR,trivial⟩;have US:kk Tryz.prog Vz:=⟨.inl eD,trivial⟩;refine⟨⟨_,Tryz.func82,by kernel_rfl,by kernel_rfl⟩,λargs K w h=>?_⟩;unfold pT.u at h;split at h
 rotate_left
 ·exact h.elim
 rename_i p now;obtain⟨W,L,a,b,m,hs,rfl,rG,Bi,hg,hlen,hk⟩:=h;refine(callsIn_wide (n:=0)).1 (callsIn_of_wp_marks Tryz.func82 Vm trivial ?_ rfl);have okF:Ok ER:=⟨hT,UX,hm⟩;obtain⟨dr0,dr1,dr2,dr3,-,-,dr7⟩:=Ew;have s0':S3 ER [] [(1,.i now),(0,.pointer (some ⟨a,0,none⟩))] {tmps:=⟨[.pointer (some ⟨a,0,none⟩),.i now]⟩++aeY (Tryz.f82.ntmps-2) undef,defers:=[]}:=by
  rw[n82.1];refine S3.cons ?_ (S3.cons ?_ (S3.start rfl ?_))
  ·show(#[Value.pointer (some ⟨a,0,none⟩),.i now]++aeY 18 undef)[1]?=_;simp
  ·show(#[Value.pointer (some ⟨a,0,none⟩),.i now]++aeY 18 undef)[0]?=_;simp
  ·show(#[Value.pointer (some ⟨a,0,none⟩),.i now]++aeY 18 undef).size=20;simp
 refine vr (F:=ER) (.inl rfl) okF dr0 s0' ?_;rw[d0];refine T.at ?_ rG;refine qE λr0=>?_;intro w1 uV a1 UR;refine vr (F:=ER) (.inl rfl) okF dr1 UR ?_;rw[d1];refine T.at ?_ uV;refine jM rfl (vg ?_);refine Qa (p:=a) (by omega) λXp hx1=>xu ?_;have XH:=hx1.len;intro w2 fj a2 N7;refine vr (F:=ER) (.inl rfl) okF dr2 N7 ?_;rw[d2];refine T.at ?_ fj;refine qE λrn=>?_;apply ws;intros;intro w3 qF a3 Wi;refine wpIn_seq (vr (F:=ER) (.inl rfl) okF dr3 Wi ?_);rw[d3];refine T.at ?_ qF;refine jM rfl (vg ?_);unfold o9;refine qE λr1=>?_;intro w4 tw a4 PD;have tw:St W w4 (Sep.pt r1 [.pointer (some (ad a 0))]::Sep.pt rn [.i 0]::Sep.pt r0 [.pointer (some (ad a 0))]::bj a (Go.Up.tick b now,Xp)::L):=tw;show(Code.block 0 (.rangeFunc (.tmp 11) #[12] J9 bd)).wpIn Fence.wide 0 Tryz.prog _ a4 w4;refine wpIn_block ?_;refine Nf rfl (g:=.tmp 11) (gf:=193) (PD.eval rfl) Tryz.func193 (by kernel_rfl) (by kernel_rfl) λfn=>?_;have ho1:=(tw.W0 (.deferred (some [])) (by simp)).W0 (.loop {state:=.ready,pending:=none,fn:=fn,tmps:=a4.tmps,params:=#[12],assign:=J9,body:=bd,defers:=w4.heap.size}) (by simp);rw[World.size_alloc] at ho1;have Bl:VC (qe m now) (Go.Up.tick b now) Xp (yI (qe m now).clock (qe m now).kept):=⟨qe m now,LX Bi now,zg hg now,R3.refl _,rfl,by
  have:yI (qe m now).clock (qe m now).kept<=96:=Nat.le_trans (List.length_filter_le _ _) hg.some_
  omega⟩
 refine Vd (W:=W) (L:=L) (a:=a) (m0:=qe m now) (r0:=r0) (rn:=rn) (D:=w4.heap.size) (tmps:=a4.tmps) hT US hm rfl PD.1.1.size (PD.get rfl) (PD.get rfl) ho1 Bl λn' b' cT k' w5 JP Eg JM=>?_;have hl5:=(JM.obj (k:=0) (b:=w4.heap.size+1) rfl).1;refine⟨_,_,run_endLoop hl5 (by simp),?_⟩;show Exit.inBlock 0 _ .normal _ _;have QX:=JM.put (k:=0) (b:=w4.heap.size+1) (.loop {state:=.exhausted,pending:=none,fn:=fn,tmps:=a4.tmps,params:=#[12],assign:=J9,body:=bd,defers:=w4.heap.size}) rfl (by simp);have QX:St W _ (ob (w4.heap.size+1) (.loop {state:=.exhausted,pending:=none,fn:=fn,tmps:=a4.tmps,params:=#[12],assign:=J9,body:=bd,defers:=w4.heap.size})::ob w4.heap.size (.deferred (some []))::Sep.pt r1 [.pointer (some (ad a 0))]::Sep.pt rn [.i n']::Sep.pt r0 [.pointer (some (ad a 0))]::bj a (b',cT)::L):=QX;show(Code.seq q7 .ret).wpIn Fence.wide 0 Tryz.prog _ _ _;have UQ:S3 ER [{target:=.collected w4.heap.size,args:=#[]}] [(5,.pointer (some (ad rn 0)))] {a4 with defers:={target:=.collected w4.heap.size,args:=#[]}::a4.defers}:=by
  refine S3.cons (PD.get rfl) ⟨⟨⟨PD.1.1.size,rfl,λt v hl=>by simp[lk] at hl⟩,PD.1.2⟩,?_⟩;show _::a4.defers=_;rw[PD.2]
 refine vr (F:=ER) (.inl rfl) okF dr7 UQ ?_;rw[d7];refine T.at ?_ QX;refine jM (r:=rn) (o:=0) rfl (lX ?_);intro w7 Ma a7 yY;show Code.ret.wpIn Fence.wide 0 Tryz.prog _ a7 w7;refine wpIn_ret ?_;show LeavesInM _ _ _ _ _ _ a7.defers _ _;rw[yY.2];have hD:=(Ma.obj (k:=1) (b:=w4.heap.size) rfl).1;have hs8:=Ma.put (k:=1) (b:=w4.heap.size) (.deferred none) rfl (by simp);refine⟨by simp,.inl ⟨_,_,rfl,run_takeDeferred hD,?_⟩⟩;refine⟨_,results_tmp n82.2 _ _ _,_,rfl,?_⟩;have e4:a7.tmps.getD 4 undef=.i n':=by rw[Array.getD_eq_getD_getElem?,yY.get (t:=4) rfl];rfl
 rw[e4];obtain⟨m',Ed,Q4,NZ,-,XE⟩:=JP;have:=C1 Ed NZ Eg;rw[<-DJ] at this;subst this;exact hk n' b' cT _ Ed Q4 (by omega) hs8.drop.drop.drop.drop.drop
end Go.Proofs.YtnffemlgkghcfaaGreatDoor
namespace Go.Proofs.YtnffemlgkghcfaaGreatDoor
open Go.Den Go.Prog
noncomputable abbrev P:Program:=Tryz.prog
def mixed:P.follows .mixedOrders=true:=by kernel_rfl
def eqs:Pc:=[(40,[.u 0,.u 0]),(105,cJ),(108,fe),(182,bg)]
def Yk:nT P eqs:=nT.cons (by kernel_rfl) (by kernel_rfl) Tryz.underlying40 (nT.cons (by kernel_rfl) (by kernel_rfl) Tryz.underlying105 (nT.cons (by kernel_rfl) (by kernel_rfl) Tryz.underlying108 (nT.cons (by kernel_rfl) (by kernel_rfl) Tryz.underlying182 nT.nil)))
def t0:kk P []:=trivial
def tk{T:B3}{g:Nat}{p:WP}(e:Entry P g p)(h:kk P T):kk P ((g,p)::T):=⟨.inl e,h⟩
def tx{T:B3}{g:Nat}{p:WP}(e:R1 P g p)(h:kk P T):kk P ((g,p)::T):=⟨.inr e,h⟩
section
variable {g1 g2 g3 g4 g5 g6 g7 g8:Nat} {p1 p2 p3 p4 p5 p6 p7 p8:WP}
def t1(a:Entry P g1 p1):kk P [(g1,p1)]:=tk a t0
def t2(a:Entry P g1 p1)(b:Entry P g2 p2):kk P [(g1,p1),(g2,p2)]:=tk a (t1 b)
def t3(a:Entry P g1 p1)(b:Entry P g2 p2)(c:Entry P g3 p3):kk P [(g1,p1),(g2,p2),(g3,p3)]:=tk a (t2 b c)
def t4(a:Entry P g1 p1)(b:Entry P g2 p2)(c:Entry P g3 p3)(d:Entry P g4 p4):kk P [(g1,p1),(g2,p2),(g3,p3),(g4,p4)]:=tk a (t3 b c d)
def t5(a:Entry P g1 p1)(b:Entry P g2 p2)(c:Entry P g3 p3)(d:Entry P g4 p4)(e:Entry P g5 p5):kk P [(g1,p1),(g2,p2),(g3,p3),(g4,p4),(g5,p5)]:=tk a (t4 b c d e)
def t6(a:Entry P g1 p1)(b:Entry P g2 p2)(c:Entry P g3 p3)(d:Entry P g4 p4)(e:Entry P g5 p5)(f:Entry P g6 p6):kk P [(g1,p1),(g2,p2),(g3,p3),(g4,p4),(g5,p5),(g6,p6)]:=tk a (t5 b c d e f)
end
def fi{n k:Nat}{f g:WK}{w:World}(h:f w)(e:f=g:=by kernel_rfl)(l:Nat.ble n k=true:=by rfl):n<=k/\g w:=⟨adX l,e▸h⟩
def em{T:B3}{g:Nat}{fn:Func}{p:WP}(m:List Nat)(EB:List (Nat×List (Nat×Value)))(hT:kk P T)(hf:P.funcs[g]?=some fn)
 (hp:∀args K w,p args K w->args.length<=fn.ntmps/\body P T eqs fn.ntmps m EB fn.results.toList (fn.body.getD .skip) args K w)(hs:fn.body.isSome=true:=by rfl)(hn:(fn.name== "runtime.NumGoroutine")=false:=by decide):Entry P g p:=
 Oc m EB hT Yk mixed hf (by obtain⟨c,hc⟩:=Option.isSome_iff_exists.1 hs;rw[hc];rfl) hn hp
def en{T:B3}{g:Nat}{fn:Func}{p:WP}(EB:List (Nat×List (Nat×Value)))(hT:kk P T)(hf:P.funcs[g]?=some fn)
 (hp:∀args K w,p args K w->args.length<=fn.ntmps/\body P T eqs fn.ntmps [] EB fn.results.toList (fn.body.getD .skip) args K w)(hs:fn.body.isSome=true:=by rfl)(hn:(fn.name== "runtime.NumGoroutine")=false:=by decide):Entry P g p:=em [] EB hT hf hp hs hn
def e0{T:B3}{g:Nat}{fn:Func}{p:WP}(hT:kk P T)(hf:P.funcs[g]?=some fn)
 (hp:∀args K w,p args K w->args.length<=fn.ntmps/\body P T eqs fn.ntmps [] [] fn.results.toList (fn.body.getD .skip) args K w)(hs:fn.body.isSome=true:=by rfl)(hn:(fn.name== "runtime.NumGoroutine")=false:=by decide):Entry P g p:=em [] [] hT hf hp hs hn
def uc{k:List Kd}{F:Fu k}{T:B3}{g:Nat}{fn:Func}(m:List Nat)(EB:List (Nat×List (Nat×Value)))(hT:kk P T)(hf:P.funcs[g]?=some fn)
 (e:F=cur k (body P T eqs fn.ntmps m EB fn.results.toList (fn.body.getD .skip)):=by kernel_rfl)(l:Nat.ble k.length fn.ntmps=true:=by rfl)(hs:fn.body.isSome=true:=by rfl)(hn:(fn.name== "runtime.NumGoroutine")=false:=by decide):Entry P g (U k F):=
 em m EB hT hf (λa K w h=>by subst e;obtain⟨h1,h2⟩:=xn k _ h;exact⟨by rw[h1];exact adX l,h2⟩) hs hn
def ub{k:List Kd}{F:Fu k}{T:B3}{g:Nat}{fn:Func}(EB:List (Nat×List (Nat×Value)))(hT:kk P T)(hf:P.funcs[g]?=some fn)
 (e:F=cur k (body P T eqs fn.ntmps [] EB fn.results.toList (fn.body.getD .skip)):=by kernel_rfl)(l:Nat.ble k.length fn.ntmps=true:=by rfl)(hs:fn.body.isSome=true:=by rfl)(hn:(fn.name== "runtime.NumGoroutine")=false:=by decide):Entry P g (U k F):=uc [] EB hT hf e l hs hn
def ua{k:List Kd}{F:Fu k}{T:B3}{g:Nat}{fn:Func}(hT:kk P T)(hf:P.funcs[g]?=some fn)
 (e:F=cur k (body P T eqs fn.ntmps [] [] fn.results.toList (fn.body.getD .skip)):=by kernel_rfl)(l:Nat.ble k.length fn.ntmps=true:=by rfl)(hs:fn.body.isSome=true:=by rfl)(hn:(fn.name== "runtime.NumGoroutine")=false:=by decide):Entry P g (U k F):=uc [] [] hT hf e l hs hn
def abA:R1 P 259 ng.u:=λargs K w h=>by
 unfold ng.u at h;split at h
 ·rename_i x y c;obtain⟨⟨⟨hx,hy⟩,h0,h1⟩,hk⟩:=h;exact⟨_,_,by rw[run_callFunc_extern Tryz.func259 (by kernel_rfl) (by kernel_rfl) (by kernel_rfl) (e:=add64Entry) (by kernel_rfl),run_add64 x y c hx hy h0 h1];rfl,hk⟩
 ·exact h.elim
def WM:Array Value->Sem Value:=λargs=>do
 let(x,y,b)<-Extern.MathBitsCarry.three "Sub64" args
 pure (Extern.MathBitsCarry.pair ((x+Extern.MathBitsCarry.m64-y-b)%Extern.MathBitsCarry.m64) (if x<y+b then 1 else 0))
def Qd(x y b:Nat)(hb:b<=1)(w:World):(WM #[.u x,.u y,.u b]).run P w=
 .ok (.tuple #[.u (((x+18446744073709551616-y-b)%18446744073709551616:Nat):Int),.u ((if x<y+b then 1 else 0:Nat):Int)]) w:=by
 have:b=0\/b=1:=by omega
 rcases this with rfl|rfl<;>rfl
def abB:R1 P 258 nd.u:=λargs K w h=>by
 unfold nd.u at h;split at h
 ·rename_i x y c;obtain⟨⟨⟨hx,hy,hy2⟩,h0,h1⟩,hk⟩:=h;obtain⟨x,rfl⟩:=ad1 hx;obtain⟨y,rfl⟩:=ad1 hy;obtain⟨c,rfl⟩:=ad1 h0;refine⟨_,_,by rw[run_callFunc_extern Tryz.func258 (by kernel_rfl) (by kernel_rfl) (by kernel_rfl) (e:=WM) (by kernel_rfl),Qd x y c (by omega)];rfl,?_⟩;have a1:(((x+18446744073709551616-y-c)%18446744073709551616:Nat):Int)=((x:Int) -y-c)%18446744073709551616:=by omega
  have a2:((if x<y+c then 1 else 0:Nat):Int)=if(x:Int)<y+c then 1 else 0:=by split<;>split<;>omega
  rw[a1,a2];exact hk
 ·exact h.elim
end Go.Proofs.YtnffemlgkghcfaaGreatDoor
namespace Go.Proofs
open Go.Shelf
def Tryz.yN:Go.Shelf.Ren:=⟨λ|169=>123|n=>n,λ|70=>200|9=>9|0=>0|72=>202|37=>161|127=>267|3=>3|5=>5|n=>n,λ|n=>n⟩
theorem Tryz.QP:Go.Proofs.Lays.n169 Tryz.prog Tryz.yN:={
 mixed:=by kernel_rfl
 f169:=Tryz.func123.trans (congrArg some (by kernel_rfl))
 t0:=Tryz.underlying0
 a0:=Tryz.isAgg0
 z0:=Tryz.sizeOf0
 v0:=Tryz.zeroValue0
 t3:=Tryz.underlying3
 a3:=Tryz.isAgg3
 z3:=Tryz.sizeOf3
 v3:=Tryz.zeroValue3
 t9:=Tryz.underlying9
 a9:=Tryz.isAgg9
 z9:=Tryz.sizeOf9
 v9:=Tryz.zeroValue9
 t37:=Tryz.underlying161
 a37:=Tryz.isAgg161
 z37:=Tryz.sizeOf161
 v37:=Tryz.zeroValue161
 t70:=Tryz.underlying200
 a70:=Tryz.isAgg200
 z70:=Tryz.sizeOf200
 v70:=Tryz.zeroValue200
 t72:=Tryz.underlying202
 a72:=Tryz.isAgg202
 z72:=Tryz.sizeOf202
 v72:=Tryz.zeroValue202
 t127:=Tryz.underlying267
 a127:=Tryz.isAgg267
 z127:=Tryz.sizeOf267
 v127:=Tryz.zeroValue267}
theorem Tryz.xq:Builder.Extra Tryz.prog Tryz.yN:={
 sizeBuilder:=by kernel_rfl
 liesBuilder:=by kernel_rfl
 t5:=Tryz.underlying5
 a5:=Tryz.isAgg5
 z5:=Tryz.sizeOf5
 v5:=Tryz.zeroValue5
 infoByte:=by kernel_rfl
 cellsByte:=by kernel_rfl
 sizeByte:=by kernel_rfl
 neB5:=by decide}
open Go.RowKit in
theorem Tryz.Builder_String_any(B b:Nat)(l:List UInt8)(w:World)(h:Lib.IsBuilder 202 5 B b (Lib.byteCells l) w)(hBw:B<=w.heap.size):
 Calls Tryz.prog 123 #[.pointer (some ⟨b,0,none⟩)] w λe w'=>e=.returned (.string ⟨l.toArray⟩)/\Below B w w':=Any.Builder_String_any Tryz.QP Tryz.xq B b l w h hBw
def Tryz.tY:Go.Shelf.Ren:=⟨λ|105=>62|212=>118|99=>119|165=>120|166=>121|170=>122|169=>123|263=>170|264=>171|206=>172|240=>173|241=>174|276=>225|277=>226|n=>n,λ|9=>9|3=>3|4=>4|20=>20|0=>0|46=>196|109=>197|5=>5|72=>202|76=>205|51=>262|146=>263|53=>38|148=>265|70=>200|37=>161|75=>204|127=>267|164=>309|80=>72|n=>n,λ|n=>n⟩
theorem Tryz.JB:Go.Proofs.Lays.n105 Tryz.prog Tryz.tY:={
 mixed:=by kernel_rfl
 f99:=Tryz.func119.trans (congrArg some (by kernel_rfl))
 f105:=Tryz.func62.trans (congrArg some (by kernel_rfl))
 f165:=Tryz.func120.trans (congrArg some (by kernel_rfl))
 f166:=Tryz.func121.trans (congrArg some (by kernel_rfl))
 f169:=Tryz.func123.trans (congrArg some (by kernel_rfl))
 f170:=Tryz.func122.trans (congrArg some (by kernel_rfl))
 f206:=Tryz.func172.trans (congrArg some (by kernel_rfl))
 f212:=Tryz.func118.trans (congrArg some (by kernel_rfl))
 f240:=Tryz.func173.trans (congrArg some (by kernel_rfl))
 f241:=Tryz.func174.trans (congrArg some (by kernel_rfl))
 f263:=Tryz.func170.trans (congrArg some (by kernel_rfl))
 f264:=Tryz.func171.trans (congrArg some (by kernel_rfl))
 f276:=Tryz.func225.trans (congrArg some (by kernel_rfl))
 f277:=Tryz.func226.trans (congrArg some (by kernel_rfl))
 t0:=Tryz.underlying0
 a0:=Tryz.isAgg0
 z0:=Tryz.sizeOf0
 v0:=Tryz.zeroValue0
 t3:=Tryz.underlying3
 a3:=Tryz.isAgg3
 z3:=Tryz.sizeOf3
 v3:=Tryz.zeroValue3
 t4:=Tryz.underlying4
 a4:=Tryz.isAgg4
 z4:=Tryz.sizeOf4
 v4:=Tryz.zeroValue4
 t5:=Tryz.underlying5
 a5:=Tryz.isAgg5
 z5:=Tryz.sizeOf5
 v5:=Tryz.zeroValue5
 t9:=Tryz.underlying9
 a9:=Tryz.isAgg9
 z9:=Tryz.sizeOf9
 v9:=Tryz.zeroValue9
 t20:=Tryz.underlying20
 a20:=Tryz.isAgg20
 z20:=Tryz.sizeOf20
 v20:=Tryz.zeroValue20
 t37:=Tryz.underlying161
 a37:=Tryz.isAgg161
 z37:=Tryz.sizeOf161
 v37:=Tryz.zeroValue161
 t46:=Tryz.underlying196
 a46:=Tryz.isAgg196
 z46:=Tryz.sizeOf196
 v46:=Tryz.zeroValue196
 t51:=Tryz.underlying262
 a51:=Tryz.isAgg262
 z51:=Tryz.sizeOf262
 v51:=Tryz.zeroValue262
 t53:=Tryz.underlying38
 a53:=Tryz.isAgg38
 z53:=Tryz.sizeOf38
 v53:=Tryz.zeroValue38
 t70:=Tryz.underlying200
 a70:=Tryz.isAgg200
 z70:=Tryz.sizeOf200
 v70:=Tryz.zeroValue200
 t72:=Tryz.underlying202
 a72:=Tryz.isAgg202
 z72:=Tryz.sizeOf202
 v72:=Tryz.zeroValue202
 t75:=Tryz.underlying204
 a75:=Tryz.isAgg204
 z75:=Tryz.sizeOf204
 v75:=Tryz.zeroValue204
 t76:=Tryz.underlying205
 a76:=Tryz.isAgg205
 z76:=Tryz.sizeOf205
 v76:=Tryz.zeroValue205
 t109:=Tryz.underlying197
 a109:=Tryz.isAgg197
 z109:=Tryz.sizeOf197
 v109:=Tryz.zeroValue197
 t127:=Tryz.underlying267
 a127:=Tryz.isAgg267
 z127:=Tryz.sizeOf267
 v127:=Tryz.zeroValue267
 t146:=Tryz.underlying263
 a146:=Tryz.isAgg263
 z146:=Tryz.sizeOf263
 v146:=Tryz.zeroValue263
 t148:=Tryz.underlying265
 a148:=Tryz.isAgg265
 z148:=Tryz.sizeOf265
 v148:=Tryz.zeroValue265
 t164:=Tryz.underlying309
 a164:=Tryz.isAgg309
 z164:=Tryz.sizeOf309
 v164:=Tryz.zeroValue309}
theorem Tryz.rh:Builder.Extra Tryz.prog Tryz.tY:={
 sizeBuilder:=by kernel_rfl
 liesBuilder:=by kernel_rfl
 t5:=Tryz.underlying5
 a5:=Tryz.isAgg5
 z5:=Tryz.sizeOf5
 v5:=Tryz.zeroValue5
 infoByte:=by kernel_rfl
 cellsByte:=by kernel_rfl
 sizeByte:=by kernel_rfl
 neB5:=by decide}
open Go.RowKit Go.Lib in
theorem Tryz.strings_Repeat(s:ByteArray)(c:Nat)(w:World)(hc:c<=9223372036854775807)(hlen:s.size* c<=140737488355328):
 Calls Tryz.prog 62 #[.string s,.int .i64 c] w λe w'=>e=.returned (.string ⟨(Lib.repeatL s.data.toList c).toArray⟩)/\Below w.heap.size w w':=Any.strings_Repeat Tryz.JB Tryz.rh s c w hc hlen
open Go.RowKit Go.Lib in
theorem Tryz.QQ:Go.Proofs.Lays.n166 Tryz.prog Tryz.tY:={Tryz.JB with}
open Go.RowKit in
theorem Tryz.Builder_WriteString(B b:Nat)(bs:List Value)(s:ByteArray)(w:World)(h:Lib.IsBuilder 202 5 B b bs w)(hlen:bs.length+s.size<=140737488355328)(hBw:B<=w.heap.size):
 Calls Tryz.prog 121 #[.pointer (some ⟨b,0,none⟩),.string s] w λe w'=>e=.returned (.tuple #[.int .i64 s.size,.nilIface])/\(Lib.BuilderAt 202 5 B b (.pointer (some ⟨b,0,none⟩)) (bs++Lib.strCells s) w'/\Below B w w'):=Any.Builder_WriteString Tryz.QQ Tryz.rh B b bs s w h hlen hBw
end Go.Proofs
namespace Go.Proofs.YtnffemlgkghcfaaGreatDoor
open Go.Den Go.Prog
def Jl(l:List UInt8):∀n,AE l n=Go.Lib.repeatL l n
 |0=>rfl
 |n+1=>by simp[AE,Go.Lib.repeatL,Jl l n]
def e62:Entry P 62 strings_Repeat.u:=⟨⟨_,Tryz.func62,rfl,rfl⟩,λargs K w h=>by
 unfold strings_Repeat.u at h
 split at h
 ·rename_i s n
  obtain⟨⟨h0,h1,h2⟩,hk⟩:=h
  obtain⟨m,rfl⟩:=ad1 h0
  refine(Go.Proofs.Tryz.strings_Repeat s m w (by omega) (by simpa using h1)).mono λe w' ⟨he,hb⟩=>⟨_,he,?_⟩
  rw[<-Jl];exact hk w' hb
 ·exact h.elim⟩
def acG:Entry P 121 eH.u:=⟨⟨_,Tryz.func121,rfl,rfl⟩,λargs K w h=>by
 unfold eH.u at h
 split at h
 ·rename_i p s
  obtain⟨B,b,l,rfl,hb,hl,hB,hk⟩:=h
  refine(Go.Proofs.Tryz.Builder_WriteString B b (Go.Lib.byteCells l) s w hb (by simpa [Go.Lib.byteCells] using hl) hB).mono λe w' ⟨he,UL,X2⟩=>⟨_,he,hk w' (.inr ?_) X2⟩
  have e:Go.Lib.byteCells (l++s.data.toList)=Go.Lib.byteCells l++Go.Lib.strCells s:=by simp[Go.Lib.byteCells,Go.Lib.strCells]
  rw[e];exact UL
 ·exact h.elim⟩
def acF:Entry P 123 fS.u:=⟨⟨_,Tryz.func123,rfl,rfl⟩,λargs K w h=>by
 unfold fS.u at h
 split at h
 ·obtain⟨B,b,l,rfl,hb,hB,hk⟩:=h
  exact(Go.Proofs.Tryz.Builder_String_any B b l w hb hB).mono λe w' ⟨he,X2⟩=>⟨_,he,hk w' X2⟩
 ·exact h.elim⟩
def e26:Entry P 26 (U [] mJ):=ua (t1 e62) Tryz.func26
def e9:Entry P 9 (U [.n] jR):=ub [(3,[(2,vp),(3,vq),(8,vi),(9,vi)])] (t1 e26) Tryz.func9
def e27:Entry P 27 (U [.n] pF):=ua t0 Tryz.func27
def Yo:Entry P 28 (U [.p] dk):=ua t0 Tryz.func28
def Wl:Entry P 68 (U [.s] lH):=ua t0 Tryz.func68
def U9:Entry P 130 (U [.p,.n] cE):=ua t0 Tryz.func130
def Mm:Entry P 69 aq.u:=en [(3,[(4,vi),(5,vi),(13,vl),(14,vi),(15,vi)])] (t1 U9) Tryz.func69 λa K w h=>by unfold aq.u at h;split at h;exact fi h;exact h.elim
def acA:Entry P 131 (U [.s] nC):=ub [(5,[(2,vq),(3,vb),(4,vq),(10,vi)])] t0 Tryz.func131
def ZZ:Entry P 74 bm.u:=e0 (t2 U9 acA) Tryz.func74 λa K w h=>by unfold bm.u at h;split at h;exact fi h;exact h.elim
def Io:Entry P 115 bq.u:=e0 t0 Tryz.func115 λa K w h=>by unfold bq.u at h;split at h;exact fi h;exact h.elim
def e71:Entry P 71 kG.u:=e0 (t3 Mm ZZ Io) Tryz.func71 λa K w h=>by unfold kG.u at h;split at h;exact fi h;exact h.elim
def e73:Entry P 73 jI.u:=e0 (t3 Mm ZZ Io) Tryz.func73 λa K w h=>by unfold jI.u at h;split at h;exact fi h;exact h.elim
def e77:Entry P 77 (U [.p] iA):=ua t0 Tryz.func77
def Va:Entry P 116 (U [.p] mq):=ua t0 Tryz.func116
def acD:Entry P 125 (U [] rM):=ua t0 Tryz.func125
def acC:Entry P 126 (U [.p] mC):=ua t0 Tryz.func126
def acB:Entry P 127 (U [.p] om):=ua t0 Tryz.func127
def e64:Entry P 64 (U [] pY):=ua (t3 acD acC acB) Tryz.func64
def YV:Entry P 143 (U [.p] jc):=ua t0 Tryz.func143
def abt:Entry P 268 (U [.g] pH):=ua t0 Tryz.func268
def Rn:Entry P 219 (U [.p,.g] bI):=ub [(5,[(3,vq),(4,vi),(5,vb),(6,vu),(7,vi),(8,vu)])] (t1 abt) Tryz.func219
def Im:Entry P 162 (U [.p,.g] dY):=ua (t1 Rn) Tryz.func162
def abT:Entry P 220 (U [.p] mw):=ub [(2,[(2,vl),(3,vi)]),(6,[(30,vl),(31,vi),(32,vi)])] (t1 Rn) Tryz.func220
def U7:Entry P 163 (U [.p,.g,.n] bZ):=ua (t2 Rn abT) Tryz.func163
def Ev:Entry P 191 (U [.p,.v] eo):=ua t0 Tryz.func191
def abS:Entry P 221 aY.u:=e0 t0 Tryz.func221 λa K w h=>by unfold aY.u at h;split at h;exact fi h;exact h.elim
def YQ:Entry P 164 (U [.p,.g] fb):=ua (t1 Ev) Tryz.func164
def abq:Entry P 270 cX.u:=e0 t0 Tryz.func270 λa K w h=>by unfold cX.u at h;split at h;exact fi h;exact h.elim
def abr:Entry P 269 (U [.n,.v] qI):=ub [(2,[(4,vi),(5,vi),(6,vi)])] (t1 abq) Tryz.func269
def U1:Entry P 222 (U [.p,.n] iD):=ua (t1 abr) Tryz.func222
def YP:Entry P 165 (U [.p,.n,.n] fA):=ua (t1 U1) Tryz.func165
def Rt:Entry P 166 (U [.p] dj):=ua t0 Tryz.func166
def abR:Entry P 223 bp.u:=e0 t0 Tryz.func223 λa K w h=>by unfold bp.u at h;split at h;exact fi h;exact h.elim
def YO:Entry P 167 (U [.p,.g] fR):=ua (t1 Ev) Tryz.func167
def U6:Entry P 168 (U [.g] pX):=ua t0 Tryz.func168
def Yq:Entry P 271 (U [.g,.g] nG):=ua t0 Tryz.func271
def YA:Entry P 224 (U [.p,.n] fy):=uc [1] [(0,[(1,vi)])] (t1 Yq) Tryz.func224
def U5:Entry P 169 (U [.p,.g] iC):=ua (t1 YA) Tryz.func169
def acH:Entry P 117 (U [.l,.l,.n,.n] cx):=ub [(5,[(8,vp),(9,vi),(10,vp),(46,vl),(47,vi),(48,vi)]),(13,[(8,vp),(9,vi),(10,vp),(77,vl),(78,vi),(79,vi)])] (tk e64 (tk YV (tk Im (tk U7 (tk YQ (tk YP (tk Rt (tk YO (tk U6 (tk U5 t0)))))))))) Tryz.func117
def e61:Entry P 61 (U [.s] kW):=ub [(10,[(2,vp),(3,vi),(4,vp),(5,vi),(6,vi),(8,vi),(9,vl),(38,vi),(39,vi)]),(15,[(2,vp),(3,vi),(4,vp),(5,vi),(6,vi),(9,vl),(10,vl),(47,vi),(48,vi)])] (tk Wl (tk Mm (tk e71 (tk e73 (tk e77 (tk Io (tk Va (tk acH t0)))))))) Tryz.func61
def YU:Entry P 152 (U [.p,.n] lq):=ua t0 Tryz.func152
def Ru:Entry P 106 (U [.p,.n] fW):=ub [(6,[(4,.string .empty),(5,vi),(6,vi)])] (t1 YU) Tryz.func106
def YH:Entry P 204 (U [.i .u32] nQ):=ua t0 Tryz.func204
def YG:Entry P 205 (U [.i .u32,.s] qu):=ub [(3,[(4,.int .u32 0),(5,.int .u32 0),(10,vi),(11,vi)]),(7,[(4,.int .u32 0),(5,.int .u32 0),(6,vi),(10,vi),(11,vi),(12,vb),(13,vi),(14,.int .u32 0),(15,.string .empty),(16,vi),(17,.int .u8 0),(18,.int .u32 0),(19,.int .u32 0),(20,vi)])] t0 Tryz.func205
def ace:Entry P 176 (U [.s] pK):=ua (t2 YH YG) Tryz.func176
def abQ:Entry P 227 (U [.s,.i .u8] jN):=uc [0] [(1,[(0,.string .empty),(4,.string .empty)])] t0 Tryz.func227
def abP:Entry P 228 (U [.s,.i .u8] jn):=uc [0] [(1,[(0,.string .empty),(4,.string .empty)])] t0 Tryz.func228
def acd:Entry P 177 (U [.s,.s] dV):=ua (t2 abQ abP) Tryz.func177
def YN:Entry P 178 (U [.g] qg):=ua t0 Tryz.func178
def U':Entry P 129 (U [.s] iB):=ua (t6 Wl Mm U9 ace acd YN) Tryz.func129
def YR:Entry P 156 (U [.g] qq):=ua t0 Tryz.func156
def acf:Entry P 175 (U [.s] sX):=ua (t4 Wl Mm e77 YR) Tryz.func175
def acE:Entry P 124 (U [.p,.n] lD):=ua (t3 Ru U' acf) Tryz.func124
def e63:Entry P 63 (U [.p] nN):=ua (t1 acE) Tryz.func63
def Y2:Entry P 109 (U [.g,.n] kX):=ua t0 Tryz.func109
def Ly:Entry P 105 (U [.n] iT):=ua t0 Tryz.func105
def Y0:Entry P 128 (U [.p,.n,.n,.n,.n] fh):=ub [(5,[(10,.string .empty),(11,vb),(12,vq),(48,vi),(49,vi)])] (t6 Yo Ly Ru acG acF U') Tryz.func128
def e65:Entry P 65 (U [.g,.p,.n,.n,.n] mI):=ua (t2 Y2 Y0) Tryz.func65
def e29:Entry P 29 (U [.p,.g] ss):=ua (t4 e61 e63 e64 e65) Tryz.func29
def e66:Entry P 66 (U [.p,.n,.n] nI):=ua (t1 Yo) Tryz.func66
def e67:Entry P 67 (U [.p,.n,.n,.n] c8):=ua (tk Wl (tk Mm (tk Ly (tk Ru (tk Io (tk Y0 (tk U' t0))))))) Tryz.func67
def e30:Entry P 30 (U [.p,.n,.n,.n] gR):=ub [(7,[(8,vp),(9,vl),(10,vi),(11,vq),(12,vl)])] (t2 e66 e67) Tryz.func30
def e70:Entry P 70 (U [.p,.v] jm):=ub [(3,[(4,vl),(5,vl),(7,vi),(8,vi)])] (t3 e71 Mm Io) Tryz.func70
def e72:Entry P 72 (U [.p,.v] iK):=ub [(3,[(4,vl),(5,vl),(7,vi),(8,vi)])] (t3 Mm Io e73) Tryz.func72
def e75:Entry P 75 (U [.p] iW):=ua (t1 Mm) Tryz.func75
def e76:Entry P 76 (U [.p,.v] lQ):=ub [(3,[(4,vl),(5,vl),(7,vi),(8,vi)])] (t3 Mm ZZ Io) Tryz.func76
def e79:Entry P 79 (U [.g] pg):=ua t0 Tryz.func79
def e84:Entry P 84 (U [.g] eg):=ua t0 Tryz.func84
def YZ:Entry P 132 (U [.g] fQ):=ua t0 Tryz.func132
def YY:Entry P 133 (U [.g] dg):=ua t0 Tryz.func133
def e78:Entry P 78 (U [.g] lG):=ub [(6,[(2,vb),(20,vl),(21,vi),(22,vi)]),(13,[(2,vb),(33,vl),(34,vi),(35,vi)])] (t4 e79 e84 YZ YY) Tryz.func78
def e31:Entry P 31 (U [.s] iV):=ua (tk Wl (tk Mm (tk e70 (tk e72 (tk ZZ (tk e75 (tk e76 (tk e77 (tk e78 t0))))))))) Tryz.func31
def e32:Entry P 32 (U [.g] mP):=ua t0 Tryz.func32
def acy:Entry P 135 dK.u:=e0 t0 Tryz.func135 λa K w h=>by unfold dK.u at h;split at h;exact fi h;exact h.elim
def acb:Entry P 179 (U [.l,.v] iR):=ub [(2,[(4,vi),(5,vb),(8,vl),(9,vi),(10,vi)])] (t1 acy) Tryz.func179
def Rs:Entry P 180 fJ.u:=en [(1,[(8,vi),(9,vi)])] t0 Tryz.func180 λa K w h=>by unfold fJ.u at h;split at h;exact fi h;exact h.elim
def Yx:Entry P 238 (U [.p] dc):=ua t0 Tryz.func238
def YJ:Entry P 199 (U [.p,.n] bV):=ua (t1 Yx) Tryz.func199
def Lx:Entry P 144 (U [.p,.g] bX):=ua (t2 Im YJ) Tryz.func144
def GD:Entry P 236 (U [.g] eK):=ua t0 Tryz.func236
def abO:Entry P 237 (U [.g] iF):=ua (t1 GD) Tryz.func237
def ab':Entry P 182 (U [.g] mm):=ua (t2 GD abO) Tryz.func182
def ab9:Entry P 183 (U [.g,.g] mn):=ua t0 Tryz.func183
def abn:Entry P 278 cj.u:=e0 t0 Tryz.func278 λa K w h=>by unfold cj.u at h;split at h;exact fi h;exact h.elim
def Yw:Entry P 239 (U [.p] kE):=ua (t1 Ev) Tryz.func239
def Yv:Entry P 241 (U [.p,.g] ky):=ua (t1 Rn) Tryz.func241
def abN:Entry P 240 cr.u:=e0 (t1 Yv) Tryz.func240 λa K w h=>by unfold cr.u at h;split at h;exact fi h;exact h.elim
def ab8:Entry P 184 (U [.p,.g] jb):=ua (t6 Im U7 YQ Ev Yx Yw) Tryz.func184
def acx:Entry P 136 iE.u:=e0 (t4 Lx ab' ab9 ab8) Tryz.func136 λa K w h=>by unfold iE.u at h;split at h;exact fi h;exact h.elim
def abp:Entry P 276 (U [.p] oJ):=ua t0 Tryz.func276
def Yz:Entry P 234 cV.u:=e0 (t1 abp) Tryz.func234 λa K w h=>by unfold cV.u at h;split at h;exact fi h;exact h.elim
def ab3:Entry P 192 cm.u:=e0 t0 Tryz.func192 λa K w h=>by unfold cm.u at h;split at h;exact fi h;exact h.elim
def aby:Entry P 262 cD.u:=e0 (t1 U5) Tryz.func262 λa K w h=>by unfold cD.u at h;split at h;exact fi h;exact h.elim
def abk:Entry P 284 (U [.p,.n] fG):=ua (t1 U1) Tryz.func284
def abl:Entry P 283 cw.u:=e0 (t2 Yv abk) Tryz.func283 λa K w h=>by unfold cw.u at h;split at h;exact fi h;exact h.elim
def aba:Entry P 297 (U [.p,.n] cU):=uc [1] [(0,[(1,vi)]),(2,[(1,vi),(4,vi),(5,vi)])] (t1 Yq) Tryz.func297
def abe:Entry P 290 (U [.p,.n] mu):=ua (t2 YA aba) Tryz.func290
def Yr:Entry P 261 (U [.p,.n] iX):=ub [(4,[(4,vb),(12,vl),(13,vi),(14,vi)])] (t1 abe) Tryz.func261
def abj:Entry P 285 cu.u:=e0 (t1 Yr) Tryz.func285 λa K w h=>by unfold cu.u at h;split at h;exact fi h;exact h.elim
def abf:Entry P 289 aX.u:=e0 t0 Tryz.func289 λa K w h=>by unfold aX.u at h;split at h;exact fi h;exact h.elim
def abd:Entry P 291 bn.u:=e0 t0 Tryz.func291 λa K w h=>by unfold bn.u at h;split at h;exact fi h;exact h.elim
def abo:Entry P 277 (U [.p,.n] oK):=ub [(1,[])] (tk aby (tk abl (tk abj (tk abN (tk ab3 (tk abn (tk abS (tk abf (tk abR (tk abd t0)))))))))) Tryz.func277
def Yy:Entry P 235 cW.u:=e0 (t1 abo) Tryz.func235 λa K w h=>by unfold cW.u at h;split at h;exact fi h;exact h.elim
def aca:Entry P 181 (U [.p,.l,.l,.v] jo):=ub [(2,[(8,vi),(14,vl),(15,vi),(16,vi)])] (t4 Yy Yz acx Rs) Tryz.func181
def acz:Entry P 134 (U [.p,.l,.v,.v] lN):=ub [(3,[(8,vl),(9,vl),(10,vi)])] (t3 acb Rs aca) Tryz.func134
def e80:Entry P 80 (U [.p,.l] nP):=ua (t1 acz) Tryz.func80
def acv:Entry P 138 dw.u:=e0 t0 Tryz.func138 λa K w h=>by unfold dw.u at h;split at h;exact fi h;exact h.elim
def ab7:Entry P 185 (U [.l,.v] iq):=ub [(2,[(4,vi),(5,vb),(8,vl),(9,vi),(10,vi)])] (t1 acv) Tryz.func185
def Rr:Entry P 188 (U [.g] oe):=ua t0 Tryz.func188
def Rl:Entry P 243 (U [.g] iJ):=ua t0 Tryz.func243
def abM:Entry P 242 (U [.g] gQ):=ub [(3,[(1,vq),(2,vb),(3,vi),(6,.agg #[]),(7,vi)])] (t2 Rr Rl) Tryz.func242
def abL:Entry P 244 (U [.g] kK):=ua (t1 GD) Tryz.func244
def Yp:Entry P 279 (U [.g] mG):=ua t0 Tryz.func279
def abK:Entry P 245 (U [.g] gn):=ua (t2 GD Yp) Tryz.func245
def YM:Entry P 187 (U [.g] cR):=ua (t6 Rr GD abM Rl abL abK) Tryz.func187
def U4:Entry P 200 (U [.p,.n] bT):=ua (t1 Rt) Tryz.func200
def Lw:Entry P 145 (U [.p,.g] eu):=ua (t2 Im U4) Tryz.func145
def abz:Entry P 260 (U [.p,.n,.g] gA):=ua (t2 Ev YJ) Tryz.func260
def YK:Entry P 197 (U [.p,.g] gN):=ua (t3 Lx Im abz) Tryz.func197
def Yu:Entry P 246 (U [.g,.g] qd):=ua t0 Tryz.func246
def abJ:Entry P 247 (U [.p,.g] uG):=ua (t1 Lx) Tryz.func247
def Yt:Entry P 248 (U [.p] kF):=ua (t1 Rt) Tryz.func248
def abg:Entry P 288 (U [.g,.g] pD):=ua t0 Tryz.func288
def Oh:Entry P 257 (U [.g,.g] nj):=ua (t1 abg) Tryz.func257
def abm:Entry P 280 (U [.g,.g] tE):=ua (t1 Oh) Tryz.func280
def YL:Entry P 195 (U [.g,.g] ma):=ua (tk Oh (tx abB t0)) Tryz.func195
def Oi:Entry P 196 (U [.g,.g] me):=ua (tx abA t0) Tryz.func196
def abb:Entry P 296 (U [.g,.g] fq):=ua (t1 Oi) Tryz.func296
def UZ:Entry P 281 (U [.g,.b] bS):=ua (t2 YL abb) Tryz.func281
def abI:Entry P 249 (U [.g,.g] dm):=ua (t4 GD Yp abm UZ) Tryz.func249
def Yn:Entry P 282 (U [.l] tD):=ub [(3,[(2,vq),(3,vb),(4,vq),(8,vl),(9,vi),(10,vi)])] (t1 Oi) Tryz.func282
def abH:Entry P 250 (U [.g,.g,.b] jX):=ua (t4 Oi Oh UZ Yn) Tryz.func250
def abG:Entry P 251 (U [.g,.g,.b] iS):=ua (t4 Oi Oh UZ Yn) Tryz.func251
def Ys:Entry P 252 (U [.p,.g,.g,.b] eB):=ua (tk Im (tk U7 (tk YP (tk Rt (tk YO (tk U6 (tk U5 (tk Ev (tk Yw t0))))))))) Tryz.func252
def ab5:Entry P 189 (U [.p,.g] lV):=ua (tk Lw (tk YM (tk Rr (tk YK (tk Rl (tk Yu (tk abJ (tk Yt (tk abI (tk abH (tk abG (tk Ys t0)))))))))))) Tryz.func189
def abx:Entry P 263 (U [.p,.n,.g] iL):=ua (t2 Ev U4) Tryz.func263
def ab1:Entry P 198 (U [.p,.g,.n] bw):=ua (t6 Lw Im U6 Ev Yr abx) Tryz.func198
def YW:Entry P 142 cb.u:=e0 (t5 Lx YL Oi YK ab1) Tryz.func142 λa K w h=>by unfold cb.u at h;split at h;exact fi h;exact h.elim
def abi:Entry P 286 (U [.g,.g] dz):=ua (t1 GD) Tryz.func286
def abF:Entry P 253 (U [.p,.g] uJ):=ua (t3 Lw Rl abi) Tryz.func253
def abE:Entry P 254 (U [.g,.g] kL):=ua (t2 GD Oh) Tryz.func254
def abD:Entry P 255 (U [.p,.g] jU):=ua (t1 Lx) Tryz.func255
def ab4:Entry P 190 (U [.p,.g] nK):=ua (tk YW (tk Lw (tk Yu (tk Yt (tk Ys (tk abF (tk abE (tk abD t0)))))))) Tryz.func190
def acu:Entry P 139 kn.u:=e0 (t4 YM Rr ab5 ab4) Tryz.func139 λa K w h=>by unfold kn.u at h;split at h;exact fi h;exact h.elim
def ab6:Entry P 186 (U [.p,.l,.l,.v] iQ):=ub [(2,[(8,vi),(14,vl),(15,vi),(16,vi)])] (t4 Yy Yz Rs acu) Tryz.func186
def acw:Entry P 137 (U [.p,.l,.v,.v] k9):=ub [(3,[(8,vl),(9,vl),(10,vi)])] (t3 Rs ab7 ab6) Tryz.func137
def e81:Entry P 81 (U [.p,.l] mU):=ua (t1 acw) Tryz.func81
def acs:Entry P 140 cn.u:=e0 (t1 Ev) Tryz.func140 λa K w h=>by unfold cn.u at h;split at h;exact fi h;exact h.elim
def abh:Entry P 287 (U [.p] po):=ua t0 Tryz.func287
def abC:Entry P 256 (U [.p] jQ):=ua (t1 abh) Tryz.func256
def ab2:Entry P 194 cG.u:=e0 (t2 Lw abC) Tryz.func194 λa K w h=>by unfold cG.u at h;split at h;exact fi h;exact h.elim
def acr:Entry P 141 o9.u:=e0 t0 Tryz.func141 λa K w h=>by unfold o9.u at h;split at h;exact fi h;exact h.elim
def e83:Entry P 83 (U [.p] iv):=ua (t1 YV) Tryz.func83
def e82:Entry P 82 pT.u:=eHT mixed acs acr YW ab2
def e33:Entry P 33 (U [.p,.g] rX):=ua (t5 e79 e80 e81 e82 e83) Tryz.func33
def Y5:Entry P 10 (U [.p] ff):=ub [(14,[(2,vp),(3,vi),(6,vp),(10,vq),(59,vl),(60,vi),(61,vi)])] (tk e27 (tk Yo (tk e29 (tk e30 (tk e31 (tk e32 (tk e33 t0))))))) Tryz.func10
def e85:Entry P 85 (U [.p,.l] pL):=ub [(3,[(4,vl),(5,vl),(10,vl),(11,vi),(12,vi)])] (t1 Lx) Tryz.func85
def e86:Entry P 86 (U [.p,.l] oR):=ub [(3,[(4,vl),(5,vl),(10,vl),(11,vi),(12,vi)])] (t1 Lw) Tryz.func86
def ab0:Entry P 201 (U [.p,.n,.n,.b] dh):=ub [(9,[(8,vl),(9,vi),(10,vi),(11,vl)]),(14,[(8,vl),(11,vl),(12,vi),(13,vi)])] (t1 U1) Tryz.func201
def acq:Entry P 146 (U [.p,.n,.n,.b] ko):=ub [(5,[(8,vl),(9,vl),(22,vl),(23,vi),(24,vi)])] (t2 U4 ab0) Tryz.func146
def e87:Entry P 87 (U [.p,.g] jA):=ub [(3,[(3,vq),(4,vl),(5,vl),(17,vl),(18,vi),(19,vi)])] (t1 acq) Tryz.func87
def e34:Entry P 34 (U [.p,.g] EA):=ua (t4 e84 e85 e86 e87) Tryz.func34
def Og:Entry P 88 (U [.p,.n,.n] aD):=ub [(1,[(9,vi),(10,vi)])] t0 Tryz.func88
def aco:Entry P 148 (U [.g] sq):=ub [(3,[(1,vq),(2,.string .empty),(3,vq),(5,vi)])] t0 Tryz.func148
def ZY:Entry P 92 (U [.p,.g] iz):=ua (t1 aco) Tryz.func92
def Y4:Entry P 103 (U [.p,.g] nR):=ub [(4,[(3,vq),(20,.agg #[]),(21,vi)])] (t3 Og ZY YZ) Tryz.func103
def e89:Entry P 89 (U [.p,.l] jJ):=ub [(2,[(12,vl),(13,vi),(14,vi)])] (t2 Og Y4) Tryz.func89
def Y3:Entry P 104 (U [.p,.g] mF):=ub [(4,[(3,vq),(20,.agg #[]),(21,vi)])] (t3 Og ZY YY) Tryz.func104
def e90:Entry P 90 (U [.p,.l] jl):=ub [(2,[(12,vl),(13,vi),(14,vi)])] (t2 Og Y3) Tryz.func90
def acp:Entry P 147 (U [.p,.b] mo):=ua (t1 Og) Tryz.func147
def e91:Entry P 91 (U [.p,.g] kT):=ub [(5,[(3,vq),(30,.agg #[]),(31,vi)])] (t3 Og ZY acp) Tryz.func91
def Ym:Entry P 93 (U [.p] bW):=ua t0 Tryz.func93
def e35:Entry P 35 (U [.g] so):=ub [(8,[(2,.string .empty),(3,vi),(4,vq),(28,vl),(29,vi),(30,vi)])] (tk e78 (tk Og (tk e89 (tk e90 (tk e91 (tk ZY (tk Ym t0))))))) Tryz.func35
def e25:Entry P 25 (U [.p] iu):=ua t0 Tryz.func25
def acO:Entry P 101 (U [.p] gB):=ua t0 Tryz.func101
def e42:Entry P 42 (U [.p] fP):=ua (t1 acO) Tryz.func42
def acN:Entry P 102 (U [.p] iM):=ua t0 Tryz.func102
def e43:Entry P 43 (U [.p] ir):=ua (t1 acN) Tryz.func43
def e44:Entry P 44 (U [.p] jW):=ua t0 Tryz.func44
def e45:Entry P 45 (U [.p] o0):=ub [(8,[(2,.string .empty),(3,vq),(31,vl),(32,vi),(33,vi)]),(13,[(2,.string .empty),(3,vq),(42,vl),(43,vi),(44,vi)])] (tk e25 (tk e42 (tk e43 (tk e44 (tk Og (tk Ym (tk Y4 (tk Y3 t0)))))))) Tryz.func45
def e46:Entry P 46 (U [.g,.n] mg):=ua (t1 Ly) Tryz.func46
def acM:Entry P 107 (U [.s] su):=ub [(3,[(2,vq),(3,vq),(14,.agg #[]),(15,vi)])] (t2 Wl Mm) Tryz.func107
def e47:Entry P 47 (U [.p] kx):=ub [(3,[(2,vi),(3,vi),(9,vi),(10,vi)])] (t3 Yo Ru acM) Tryz.func47
def YI:Entry P 202 (U [.p,.s] iy):=ua t0 Tryz.func202
def ack:Entry P 153 (U [.g] nq):=ua (tk e62 (tk Og (tk Ym (tk YN (tk YI (tk YH (tk YG t0))))))) Tryz.func153
def YT:Entry P 155 (U [.p] jf):=ua t0 Tryz.func155
def acj:Entry P 154 (U [.p,.n,.s] cF):=ua (t3 e26 YU YT) Tryz.func154
def Vc:Entry P 108 (U [.p,.n,.n,.n,.s] ie):=uc [4] [(6,[(4,.string .empty),(10,vi),(11,vi)])] (t4 Yo Ly ack acj) Tryz.func108
def Vb:Entry P 110 (U [.p] ij):=ub [(6,[(2,vi),(14,vl),(15,vi),(16,vi)])] (t1 YT) Tryz.func110
def e48:Entry P 48 (U [.g,.p,.n,.n,.s] mH):=ua (t3 Vc Y2 Vb) Tryz.func48
def acL:Entry P 111 (U [.g] qX):=ub [(5,[(2,.string .empty),(3,vi),(4,vq),(20,.agg #[]),(21,vi)])] (t3 Og Ym YR) Tryz.func111
def e49:Entry P 49 (U [.p,.n,.g] pV):=ua (t3 Vc Vb acL) Tryz.func49
def e50:Entry P 50 (U [.p] gg):=ua t0 Tryz.func50
def e51:Entry P 51 (U [.p] fN):=ua t0 Tryz.func51
def YX:Entry P 14 (U [.p] cB):=ua (tk e45 (tk e46 (tk e47 (tk e48 (tk e49 (tk e50 (tk e51 t0))))))) Tryz.func14
def e94:Entry P 94 (U [.p,.n] fM):=ua (t1 Ly) Tryz.func94
def acn:Entry P 149 (U [.n,.s] oN):=ua (t3 Og Ym YI) Tryz.func149
def e95:Entry P 95 (U [.p,.n,.s] aV):=ua (t5 e94 Ly Vc Vb acn) Tryz.func95
def e36:Entry P 36 (U [.p,.s] fF):=ua (t4 YX e47 e94 e95) Tryz.func36
def Y1:Entry P 11 (U [.p,.g] dJ):=ua (t5 e32 e33 e34 e35 e36) Tryz.func11
def Z1:Entry P 16 (U [.p] jB):=ua (t1 e50) Tryz.func16
def e24:Entry P 24 (U [.p] jK):=ua (t2 e45 e61) Tryz.func24
def e7:Entry P 7 (U [] cA):=ua (t6 e9 Y5 Y1 Z1 e24 e25) Tryz.func7
def e8:Entry P 8 (U [.l] eQ):=ub [(3,[(2,vb),(3,vi),(6,vl),(7,vi),(8,vi)])] t0 Tryz.func8
def e20:Entry P 20 (U [.g] eG):=ua t0 Tryz.func20
def e52:Entry P 52 (U [.g] bY):=ua t0 Tryz.func52
def e53:Entry P 53 (U [.g] aA):=ua t0 Tryz.func53
def e54:Entry P 54 (U [.g] bC):=ua t0 Tryz.func54
def e55:Entry P 55 (U [.g] aS):=ua t0 Tryz.func55
def e21:Entry P 21 (U [.g] c9):=ub [(4,[(1,vq),(2,vb),(16,vl),(17,vi),(18,vi)]),(10,[(1,vq),(2,vb),(32,vl),(33,vi),(34,vi)])] (t4 e52 e53 e54 e55) Tryz.func21
def e56:Entry P 56 (U [.p] dU):=ua t0 Tryz.func56
def acK:Entry P 112 (U [.p] bh):=ub [(1,[(7,vl),(8,vi),(9,vi)])] t0 Tryz.func112
def e57:Entry P 57 (U [.p,.n] gG):=ua (t1 acK) Tryz.func57
def e58:Entry P 58 (U [.l] ix):=ub [(3,[(2,vl),(3,vl),(6,vl),(7,vi),(8,vi)])] t0 Tryz.func58
def e59:Entry P 59 (U [.l] gW):=ub [(3,[(2,vl),(3,vl),(6,vl),(7,vi),(8,vi)])] t0 Tryz.func59
def acJ:Entry P 113 (U [.g] jq):=ua t0 Tryz.func113
def U0:Entry P 265 (U [.g,.n] dB):=ua t0 Tryz.func265
def YF:Entry P 209 (U [.g] gh):=ub [(3,[(1,vq),(2,.string .empty),(3,vl),(4,vi)]),(7,[(1,vq),(2,.string .empty),(3,vl),(4,vi),(5,vi),(6,vi)]),(16,[(2,.string .empty),(8,.string .empty),(46,vl),(47,vi),(48,vi)])] (t1 U0) Tryz.func209
def abw:Entry P 264 (U [.n,.n] jj):=ua t0 Tryz.func264
def abZ:Entry P 206 (U [.g] aC):=ua (t2 YF abw) Tryz.func206
def U2:Entry P 207 (U [.p,.g] cH):=ub [(2,[(3,vq),(4,vi),(10,vl),(11,vi),(12,vi)])] t0 Tryz.func207
def abY:Entry P 208 (U [.g,.g] dR):=ua t0 Tryz.func208
def aci:Entry P 157 (U [.p,.g] gI):=ua (t3 abZ U2 abY) Tryz.func157
def Lu:Entry P 150 (U [.g,.n] aO):=ua t0 Tryz.func150
def Oj:Entry P 159 (U [.g] dI):=ua (t1 Lu) Tryz.func159
def abX:Entry P 210 (U [.g] aL):=ua (t2 Lu Oj) Tryz.func210
def U8:Entry P 158 (U [.g] au):=ua (t4 Lu Oj YF abX) Tryz.func158
def YE:Entry P 211 (U [.p,.g] dS):=ub [(2,[(3,vq),(4,vi),(10,vl),(11,vi),(12,vi)])] t0 Tryz.func211
def YD:Entry P 212 (U [.g,.g] ia):=ua t0 Tryz.func212
def Rp:Entry P 213 (U [.g,.g] fk):=ub [(2,[(2,vq),(3,vq),(4,vb),(5,vi)])] (t1 U0) Tryz.func213
def U3:Entry P 203 (U [.g,.g] bM):=ua t0 Tryz.func203
def acm:Entry P 151 (U [.g,.g] fK):=ua (t1 U3) Tryz.func151
def e99:Entry P 99 (U [.p,.n] aa):=ub [(3,[(4,vq),(5,vq),(21,vl),(22,vi),(23,vi)])] (t2 Lu acm) Tryz.func99
def abW:Entry P 214 (U [.p,.g,.n] dE):=ua (t3 e56 e99 U2) Tryz.func214
def YC:Entry P 215 (U [.p,.g,.g,.n] dT):=ua t0 Tryz.func215
def ach:Entry P 160 (U [.p,.g] af):=ua (tk Lu (tk U8 (tk Oj (tk YE (tk YD (tk Rp (tk abW (tk YC t0)))))))) Tryz.func160
def abV:Entry P 216 (U [.g,.g] hU):=ua (t1 Rp) Tryz.func216
def abv:Entry P 266 (U [] kr):=ua t0 Tryz.func266
def abc:Entry P 292 (U [.g,.n] lg):=ua t0 Tryz.func292
def abu:Entry P 267 (U [.g,.g] c7):=ub [(6,[(2,vq),(3,vq),(4,vq),(5,vb),(6,vq),(7,vi),(8,vi)])] (t3 Rp U0 abc) Tryz.func267
def YB:Entry P 217 (U [.g,.b] bN):=ua (t3 U3 abv abu) Tryz.func217
def abU:Entry P 218 (U [.g,.b,.g,.b] aR):=ua (t3 U3 Rp YB) Tryz.func218
def acg:Entry P 161 (U [.p,.g] aN):=ua (tk e99 (tk Lu (tk U8 (tk Oj (tk U2 (tk YE (tk YD (tk YC (tk abV (tk YB (tk abU t0))))))))))) Tryz.func161
def acI:Entry P 114 (U [.p,.g] fr):=ua (t5 aci U8 Oj ach acg) Tryz.func114
def e60:Entry P 60 (U [.p,.l] aW):=uc [0] [(3,[(0,vp),(4,vl),(5,vp),(6,vl),(7,vi)]),(5,[(0,vp),(4,vl),(5,vp),(6,vl),(7,vi),(8,vi)]),(15,[(0,vp),(4,vl),(5,vp),(6,vl),(7,vi),(8,vi),(9,vi),(10,vi),(11,vp),(12,vi)]),(21,[(0,vp),(4,vl),(5,vp),(6,vl),(7,vi),(8,vi),(9,vi),(10,vi),(11,vp),(13,vi)])] (t3 e56 acJ acI) Tryz.func60
def e22:Entry P 22 (U [.p,.g] eJ):=ua (t6 e52 e56 e57 e58 e59 e60) Tryz.func22
def e96:Entry P 96 (U [.l,.l] iw):=ub [(3,[(4,vl),(5,vl),(10,vl),(11,vi),(12,vi)]),(6,[(4,vl),(5,vl),(7,vq),(10,vl),(11,vi),(12,vi),(16,vl),(17,vi),(18,vi)])] t0 Tryz.func96
def e97:Entry P 97 (U [.l,.l] gV):=ub [(3,[(4,vl),(5,vl),(10,vl),(11,vi),(12,vi)]),(6,[(4,vl),(5,vl),(7,vq),(10,vl),(11,vi),(12,vi),(16,vl),(17,vi),(18,vi)])] t0 Tryz.func97
def e98:Entry P 98 (U [.l,.g] aM):=ub [(3,[(3,vq),(4,vl),(5,vl),(10,vi),(11,vi)])] t0 Tryz.func98
def e37:Entry P 37 (U [.l,.l,.g] jY):=ua (t4 e53 e96 e97 e98) Tryz.func37
def e38:Entry P 38 (U [.p] dQ):=ub [(3,[(2,vl),(3,vl),(9,vi),(10,vi)])] (t1 e99) Tryz.func38
def e39:Entry P 39 (U [.l,.l,.l,.l] eE):=ub [(4,[(8,vb),(24,vi),(25,vi)]),(10,[(8,vb),(39,vi),(40,vi)])] t0 Tryz.func39
def e40:Entry P 40 (U [.l,.l] kq):=ub [(4,[(4,vb),(12,vi),(13,vi)])] t0 Tryz.func40
def Z3:Entry P 12 (U [.g,.p,.g] av):=ua (tk e20 (tk e21 (tk e22 (tk e37 (tk e38 (tk e39 (tk e40 t0))))))) Tryz.func12
def acP:Entry P 100 (U [.p,.l,.l,.n,.n] bt):=ub [(4,[(10,vb),(48,vi),(49,vi)]),(10,[(10,vb),(66,vi),(67,vi)])] t0 Tryz.func100
def e41:Entry P 41 (U [.p,.l,.l,.n,.n] gH):=ua (t2 e38 acP) Tryz.func41
def Z2:Entry P 13 (U [.p,.p] cN):=ua (t6 e24 e25 e41 e42 e43 e44) Tryz.func13
def e3:Entry P 3 (U [.n,.l,.n] bP):=ub [(9,[(6,vb),(8,vp),(10,vp),(45,vi),(46,vi)]),(11,[(6,vb),(8,vp),(10,vp),(45,vi),(46,vi),(48,vl),(49,vi),(50,vi)])] (tk e7 (tk e8 (tk e9 (tk Y5 (tk Y1 (tk Z3 (tk Z2 (tk YX t0)))))))) Tryz.func3
def e15:Entry P 15 (U [.p] kv):=ua t0 Tryz.func15
def e4:Entry P 4 (U [.n,.l,.n] aT):=ub [(9,[(6,vb),(7,vp),(8,vp),(10,vp),(47,vl),(48,vi),(49,vi)]),(16,[(6,vb),(7,vp),(8,vp),(10,vp),(13,vi),(14,vi),(15,vi)])] (tk e7 (tk e8 (tk e9 (tk Y5 (tk Y1 (tk Z3 (tk Z2 (tk YX (tk e15 (tk Z1 t0)))))))))) Tryz.func4
def e17:Entry P 17 (U [.p,.n] iZ):=ua t0 Tryz.func17
def Z0:Entry P 18 (U [.p] fL):=ua t0 Tryz.func18
def e19:Entry P 19 (U [.p] iY):=ua t0 Tryz.func19
def e5:Entry P 5 (U [.n,.l,.n,.l] ak):=ub [(10,[(8,vb),(9,vp),(10,vp),(12,vp),(58,vl),(59,vi),(60,vi)]),(22,[(8,vb),(9,vp),(10,vp),(12,vp),(15,vi),(89,vl),(90,vi),(91,vi)])] (tk e7 (tk e8 (tk e9 (tk Y5 (tk Y1 (tk Z3 (tk Z2 (tk YX (tk e17 (tk Z0 (tk e19 (tk e20 (tk e21 t0))))))))))))) Tryz.func5
def e23:Entry P 23 (U [.p,.i .u64,.n,.n] qk):=uc [3] [(3,[(3,vi),(18,vl),(19,vi),(20,vi)])] t0 Tryz.func23
def e6:Entry P 6 (U [.n,.l] aj):=ub [(12,[(4,vb),(5,vp),(6,vp),(8,vp),(9,vp),(44,vl),(45,vi),(46,vi)])] (tk e7 (tk e8 (tk e9 (tk Y5 (tk Y1 (tk Z3 (tk Z2 (tk YX (tk e15 (tk e17 (tk Z0 (tk e20 (tk e22 (tk e23 t0)))))))))))))) Tryz.func6
end Go.Proofs.YtnffemlgkghcfaaGreatDoor
namespace Go.Proofs.YtnffemlgkghcfaaGreatDoor
open Go.ChangeShapes Go.WideShapes Go.ChangeAt Go.RowKit Go.Den Go.Sep Go.Prog Go.Up
def adj(b j:Nat):(ad b 0).add j=⟨b,j,none⟩:=by
 unfold Addr.add;split
 ·rename_i h;rw[h]
 ·simp
def aa5{W:World}(h:laidMetH Tryz.prog Rows.vaultSickRow.laid W):px W:=by
 rw[MakeChecks.laidMetH_plain _ _ _ (by kernel_rfl)] at h;obtain⟨ps,⟨g0,t0,Z4,f0,p0,q0,-,-,-,-,⟨g,t,cs,fuel,p,q,hg,ht,hv,hd,⟨g2,t2,Oq,adi,p2,q2,Mf,H0,QW,Py,-,-⟩,-⟩,-⟩,-,-⟩:=h;obtain rfl:=aea.inj ((show Tryz.prog.globalNamed "bondstore/wide.Most"=some 0 by kernel_rfl).symm.trans hg);obtain rfl:=aea.inj ((show(Tryz.prog.globals[0]?).map (·.type)=some 40 by kernel_rfl).symm.trans ht);obtain rfl:=aea.inj ((show Tryz.prog.globalNamed "bondstore/hold.told"=some 2 by kernel_rfl).symm.trans Mf);obtain rfl:=aea.inj ((show(Tryz.prog.globals[2]?).map (·.type)=some 348 by kernel_rfl).symm.trans H0);have c38:Tryz.prog.cellsOf 38=1:=by kernel_rfl
 have c3:Tryz.prog.cellsOf 176=1:=by kernel_rfl
 have c40:Tryz.prog.cellsOf 40=2:=by kernel_rfl
 have acV:Tryz.prog.cellsOf 348=5:=by kernel_rfl
 refine⟨?_,?_⟩
 ·obtain⟨y0,y1,n,ex,hl,k0,k1⟩:=trod_struct2 Tryz.underlying40 hd;rw[c40] at hl;obtain⟨l⟩:=cs
  match l,hl with
  |[a,b],_=>
   have e3:=(DataW.agg.inj (Prod.mk.inj ex).1);simp only[List.cons.injEq,and_true] at e3;rw[c38] at k0 k1;obtain⟨z0,a0,b0,_⟩:=DataW.trod_int Tryz.underlying38 k0;obtain⟨z1,a1,b1,_⟩:=DataW.trod_int Tryz.underlying38 k1;have hc:∀i,W.cell? ⟨0,i,none⟩=[a,b][i]?:=λi=>by rw[World.var?_cell hg hv i];simp
   simp at a0 a1;subst b0 b1 a0 a1;simp only[DataW.lit.injEq,Lit.int.injEq,true_and] at e3;obtain⟨rfl,rfl⟩:=e3;intro j v hj;rw[adj,hc];exact hj
 ·obtain⟨xs,m,_,ex,hlen,hl,XS⟩:=DataW.trod_array Tryz.underlying348 Py;rw[acV] at hlen;obtain⟨l⟩:=Oq
  match l,hlen with
  |[a,b,c,d,e],_=>
   match xs,hl with
   |[x0,x1,x2,x3,x4],_=>
    have e3:=(DataW.agg.inj (Prod.mk.inj ex).1);simp only[aer,afp,List.cons.injEq,and_true] at e3;have k0:=XS 0 (by omega);have k1:=XS 1 (by omega);have k2:=XS 2 (by omega);have k3:=XS 3 (by omega);have k4:=XS 4 (by omega);rw[c3] at k0 k1 k2 k3 k4;obtain⟨z0,a0,b0,_⟩:=DataW.trod_int Tryz.underlying176 k0;obtain⟨z1,a1,b1,_⟩:=DataW.trod_int Tryz.underlying176 k1;obtain⟨z2,a2,b2,_⟩:=DataW.trod_int Tryz.underlying176 k2;obtain⟨z3,a3,b3,_⟩:=DataW.trod_int Tryz.underlying176 k3;obtain⟨z4,a4,b4,_⟩:=DataW.trod_int Tryz.underlying176 k4;have hc:∀i,W.cell? ⟨2,i,none⟩=[a,b,c,d,e][i]?:=λi=>by rw[World.var?_cell Mf QW i];simp
    simp at a0 a1 a2 a3 a4;subst b0 b1 b2 b3 b4 a0 a1 a2 a3 a4;simp only[DataW.lit.injEq,Lit.int.injEq,true_and] at e3;obtain⟨rfl,rfl,rfl,rfl,rfl⟩:=e3;intro j v hj;rw[adj,hc];exact hj
end Go.Proofs.YtnffemlgkghcfaaGreatDoor
namespace Go.Proofs.YtnffemlgkghcfaaGreatDoor
open Go.Sep Go.Den Go.RowKit Go.Prog Go.Up
def DI{W:World}{a0:Int}{b1:OA}{n1 c1:Nat}{xs1:LV}{a2:Int}{b3:OA}{n3 c3:Nat}{xs3:LV}(G:px W)(hr1:Ro W b1 n1 18 xs1)(he1:∀i,i<n1->IM W Kp xs1 (i* 18))(Uz:n1<=maxLen)(Xs:Ro W b3 n3 13 xs3)(he3:∀i,i<n3->IM W HI xs3 (i* 13))(hm3:n3<=maxLen):
 U [.n,.l,.n,.l] ak [.i a0,.l b1 n1 c1,.i a2,.l b3 n3 c3] (λv w'=>v=.bool true/\Below W.heap.size W w') W:=by
 obtain⟨l1,rfl,h1,k1⟩:=aae hr1 he1;obtain⟨l3,rfl,h3,k3⟩:=rqs Xs he3;exact G3 (K:=λv w'=>v=.bool true/\Below W.heap.size W w') (W:=W) (L:=[]) G h1 Uz k1 h3 hm3 k3 (λw hs=>⟨rfl,hs.1⟩) W (St.start W)
end Go.Proofs.YtnffemlgkghcfaaGreatDoor
