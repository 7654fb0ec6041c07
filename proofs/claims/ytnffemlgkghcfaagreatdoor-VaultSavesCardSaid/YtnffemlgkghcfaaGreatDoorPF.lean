/- Part of the proof: see the last text. -/
import Derived.Test.YtnffemlgkghcfaaGreatDoorPD
import Derived.Test.YtnffemlgkghcfaaGreatDoorPB
import Derived.Test.YtnffemlgkghcfaaGreatDoorPE
import Derived.Laws.Externs
import Derived.Test.YtnffemlgkghcfaaGreatDoorProg
import Derived.Shelf.Strings.Builder2
import Derived.Shelf.Strings.Repeat
import Derived.Test.YtnffemlgkghcfaaGreatDoorRows
import Derived.ChangeSame
import Derived.MakeChecks
import Derived.LaidMore
set_option linter.all false
set_option maxRecDepth 100000
set_option synthInstance.maxSize 100000
open Int renaming eq_ofNat_of_zero_le→ad3
open List renaming map_cons→aet,map_nil→afs
open Nat renaming le_of_ble_eq_true→adZ
open Option renaming some→aec
namespace Go.Proofs.YtnffemlgkghcfaaGreatDoor
open Go.Den Go.Prog
noncomputable abbrev P:Program:=Tryz.prog
def mixed:P.follows .mixedOrders=true:=by kernel_rfl
def eqs:O8:=[(40,[.u 0,.u 0]),(105,cM),(108,fe),(182,bg)]
def Yf:nR P eqs:=nR.cons (by kernel_rfl) (by kernel_rfl) Tryz.underlying40 (nR.cons (by kernel_rfl) (by kernel_rfl) Tryz.underlying105 (nR.cons (by kernel_rfl) (by kernel_rfl) Tryz.underlying108 (nR.cons (by kernel_rfl) (by kernel_rfl) Tryz.underlying182 nR.nil)))
def t0:kh P []:=trivial
def tk{T:B2}{g:Nat}{p:WP}(e:Entry P g p)(h:kh P T):kh P ((g,p)::T):=⟨.inl e,h⟩
def tx{T:B2}{g:Nat}{p:WP}(e:RY P g p)(h:kh P T):kh P ((g,p)::T):=⟨.inr e,h⟩
section
variable {g1 g2 g3 g4 g5 g6 g7 g8:Nat} {p1 p2 p3 p4 p5 p6 p7 p8:WP}
def t1(a:Entry P g1 p1):kh P [(g1,p1)]:=tk a t0
def t2(a:Entry P g1 p1)(b:Entry P g2 p2):kh P [(g1,p1),(g2,p2)]:=tk a (t1 b)
def t3(a:Entry P g1 p1)(b:Entry P g2 p2)(c:Entry P g3 p3):kh P [(g1,p1),(g2,p2),(g3,p3)]:=tk a (t2 b c)
def t4(a:Entry P g1 p1)(b:Entry P g2 p2)(c:Entry P g3 p3)(d:Entry P g4 p4):kh P [(g1,p1),(g2,p2),(g3,p3),(g4,p4)]:=tk a (t3 b c d)
def t5(a:Entry P g1 p1)(b:Entry P g2 p2)(c:Entry P g3 p3)(d:Entry P g4 p4)(e:Entry P g5 p5):kh P [(g1,p1),(g2,p2),(g3,p3),(g4,p4),(g5,p5)]:=tk a (t4 b c d e)
def t6(a:Entry P g1 p1)(b:Entry P g2 p2)(c:Entry P g3 p3)(d:Entry P g4 p4)(e:Entry P g5 p5)(f:Entry P g6 p6):kh P [(g1,p1),(g2,p2),(g3,p3),(g4,p4),(g5,p5),(g6,p6)]:=tk a (t5 b c d e f)
end
def fi{n k:Nat}{f g:WK}{w:World}(h:f w)(e:f=g:=by kernel_rfl)(l:Nat.ble n k=true:=by rfl):n<=k/\g w:=⟨adZ l,e▸h⟩
def em{T:B2}{g:Nat}{fn:Func}{p:WP}(m:List Nat)(Ez:List (Nat×List (Nat×Value)))(hT:kh P T)(hf:P.funcs[g]?=some fn)
 (hp:∀args K w,p args K w->args.length<=fn.ntmps/\body P T eqs fn.ntmps m Ez fn.results.toList (fn.body.getD .skip) args K w)(hs:fn.body.isSome=true:=by rfl)(hn:(fn.name== "runtime.NumGoroutine")=false:=by decide):Entry P g p:=
 N7 m Ez hT Yf mixed hf (by obtain⟨c,hc⟩:=Option.isSome_iff_exists.1 hs;rw[hc];rfl) hn hp
def en{T:B2}{g:Nat}{fn:Func}{p:WP}(Ez:List (Nat×List (Nat×Value)))(hT:kh P T)(hf:P.funcs[g]?=some fn)
 (hp:∀args K w,p args K w->args.length<=fn.ntmps/\body P T eqs fn.ntmps [] Ez fn.results.toList (fn.body.getD .skip) args K w)(hs:fn.body.isSome=true:=by rfl)(hn:(fn.name== "runtime.NumGoroutine")=false:=by decide):Entry P g p:=em [] Ez hT hf hp hs hn
def e0{T:B2}{g:Nat}{fn:Func}{p:WP}(hT:kh P T)(hf:P.funcs[g]?=some fn)
 (hp:∀args K w,p args K w->args.length<=fn.ntmps/\body P T eqs fn.ntmps [] [] fn.results.toList (fn.body.getD .skip) args K w)(hs:fn.body.isSome=true:=by rfl)(hn:(fn.name== "runtime.NumGoroutine")=false:=by decide):Entry P g p:=em [] [] hT hf hp hs hn
def uc{k:List Kd}{F:Fu k}{T:B2}{g:Nat}{fn:Func}(m:List Nat)(Ez:List (Nat×List (Nat×Value)))(hT:kh P T)(hf:P.funcs[g]?=some fn)
 (e:F=cur k (body P T eqs fn.ntmps m Ez fn.results.toList (fn.body.getD .skip)):=by kernel_rfl)(l:Nat.ble k.length fn.ntmps=true:=by rfl)(hs:fn.body.isSome=true:=by rfl)(hn:(fn.name== "runtime.NumGoroutine")=false:=by decide):Entry P g (U k F):=
 em m Ez hT hf (λa K w h=>by subst e;obtain⟨h1,h2⟩:=xr k _ h;exact⟨by rw[h1];exact adZ l,h2⟩) hs hn
def ub{k:List Kd}{F:Fu k}{T:B2}{g:Nat}{fn:Func}(Ez:List (Nat×List (Nat×Value)))(hT:kh P T)(hf:P.funcs[g]?=some fn)
 (e:F=cur k (body P T eqs fn.ntmps [] Ez fn.results.toList (fn.body.getD .skip)):=by kernel_rfl)(l:Nat.ble k.length fn.ntmps=true:=by rfl)(hs:fn.body.isSome=true:=by rfl)(hn:(fn.name== "runtime.NumGoroutine")=false:=by decide):Entry P g (U k F):=uc [] Ez hT hf e l hs hn
def ua{k:List Kd}{F:Fu k}{T:B2}{g:Nat}{fn:Func}(hT:kh P T)(hf:P.funcs[g]?=some fn)
 (e:F=cur k (body P T eqs fn.ntmps [] [] fn.results.toList (fn.body.getD .skip)):=by kernel_rfl)(l:Nat.ble k.length fn.ntmps=true:=by rfl)(hs:fn.body.isSome=true:=by rfl)(hn:(fn.name== "runtime.NumGoroutine")=false:=by decide):Entry P g (U k F):=uc [] [] hT hf e l hs hn
def abC:RY P 259 mZ.u:=λargs K w h=>by
 unfold mZ.u at h;split at h
 ·rename_i x y c;obtain⟨⟨⟨hx,hy⟩,h0,h1⟩,hk⟩:=h;exact⟨_,_,by rw[run_callFunc_extern Tryz.func259 (by kernel_rfl) (by kernel_rfl) (by kernel_rfl) (e:=add64Entry) (by kernel_rfl),run_add64 x y c hx hy h0 h1];rfl,hk⟩
 ·exact h.elim
def WN:Array Value->Sem Value:=λargs=>do
 let(x,y,b)<-Extern.MathBitsCarry.three "Sub64" args
 pure (Extern.MathBitsCarry.pair ((x+Extern.MathBitsCarry.m64-y-b)%Extern.MathBitsCarry.m64) (if x<y+b then 1 else 0))
def Qb(x y b:Nat)(hb:b<=1)(w:World):(WN #[.u x,.u y,.u b]).run P w=
 .ok (.tuple #[.u (((x+18446744073709551616-y-b)%18446744073709551616:Nat):Int),.u ((if x<y+b then 1 else 0:Nat):Int)]) w:=by
 have:b=0\/b=1:=by omega
 rcases this with rfl|rfl<;>rfl
def abD:RY P 258 mY.u:=λargs K w h=>by
 unfold mY.u at h;split at h
 ·rename_i x y c;obtain⟨⟨⟨hx,hy,hy2⟩,h0,h1⟩,hk⟩:=h;obtain⟨x,rfl⟩:=ad3 hx;obtain⟨y,rfl⟩:=ad3 hy;obtain⟨c,rfl⟩:=ad3 h0;refine⟨_,_,by rw[run_callFunc_extern Tryz.func258 (by kernel_rfl) (by kernel_rfl) (by kernel_rfl) (e:=WN) (by kernel_rfl),Qb x y c (by omega)];rfl,?_⟩;have a1:(((x+18446744073709551616-y-c)%18446744073709551616:Nat):Int)=((x:Int) -y-c)%18446744073709551616:=by omega
  have a2:((if x<y+c then 1 else 0:Nat):Int)=if(x:Int)<y+c then 1 else 0:=by split<;>split<;>omega
  rw[a1,a2];exact hk
 ·exact h.elim
end Go.Proofs.YtnffemlgkghcfaaGreatDoor
namespace Go.Proofs
open Go.Shelf
def Tryz.yO:Go.Shelf.Ren:=⟨λ|169=>123|n=>n,λ|70=>200|9=>9|0=>0|72=>202|37=>161|127=>267|3=>3|5=>5|n=>n,λ|n=>n⟩
theorem Tryz.QL:Go.Proofs.Lays.n169 Tryz.prog Tryz.yO:={
 mixed:=by kernel_rfl
 f169:=Tryz.func123.trans (congrArg some (by kernel_rfl))
 t0:=Tryz.underlying0
 a0:=Tryz.isAgg0
 z0:=Tryz.sizeOf0
 v0:=Tryz.zeroValue0
 t3:=Tryz.underlying3
 a3:=Tryz.isAgg3
 z3:=Tryz.sizeOf3
 v3:=Tryz.zeroValue3
 t9:=Tryz.underlying9
 a9:=Tryz.isAgg9
 z9:=Tryz.sizeOf9
 v9:=Tryz.zeroValue9
 t37:=Tryz.underlying161
 a37:=Tryz.isAgg161
 z37:=Tryz.sizeOf161
 v37:=Tryz.zeroValue161
 t70:=Tryz.underlying200
 a70:=Tryz.isAgg200
 z70:=Tryz.sizeOf200
 v70:=Tryz.zeroValue200
 t72:=Tryz.underlying202
 a72:=Tryz.isAgg202
 z72:=Tryz.sizeOf202
 v72:=Tryz.zeroValue202
 t127:=Tryz.underlying267
 a127:=Tryz.isAgg267
 z127:=Tryz.sizeOf267
 v127:=Tryz.zeroValue267}
theorem Tryz.xw:Builder.Extra Tryz.prog Tryz.yO:={
 sizeBuilder:=by kernel_rfl
 liesBuilder:=by kernel_rfl
 t5:=Tryz.underlying5
 a5:=Tryz.isAgg5
 z5:=Tryz.sizeOf5
 v5:=Tryz.zeroValue5
 infoByte:=by kernel_rfl
 cellsByte:=by kernel_rfl
 sizeByte:=by kernel_rfl
 neB5:=by decide}
open Go.RowKit in
theorem Tryz.Builder_String_any(B b:Nat)(l:List UInt8)(w:World)(h:Lib.IsBuilder 202 5 B b (Lib.byteCells l) w)(hBw:B<=w.heap.size):
 Calls Tryz.prog 123 #[.pointer (some ⟨b,0,none⟩)] w λe w'=>e=.returned (.string ⟨l.toArray⟩)/\Below B w w':=Any.Builder_String_any Tryz.QL Tryz.xw B b l w h hBw
def Tryz.tU:Go.Shelf.Ren:=⟨λ|105=>62|212=>118|99=>119|165=>120|166=>121|170=>122|169=>123|263=>170|264=>171|206=>172|240=>173|241=>174|276=>225|277=>226|n=>n,λ|9=>9|3=>3|4=>4|20=>20|0=>0|46=>196|109=>197|5=>5|72=>202|76=>205|51=>262|146=>263|53=>38|148=>265|70=>200|37=>161|75=>204|127=>267|164=>309|80=>72|n=>n,λ|n=>n⟩
theorem Tryz.Jx:Go.Proofs.Lays.n105 Tryz.prog Tryz.tU:={
 mixed:=by kernel_rfl
 f99:=Tryz.func119.trans (congrArg some (by kernel_rfl))
 f105:=Tryz.func62.trans (congrArg some (by kernel_rfl))
 f165:=Tryz.func120.trans (congrArg some (by kernel_rfl))
 f166:=Tryz.func121.trans (congrArg some (by kernel_rfl))
 f169:=Tryz.func123.trans (congrArg some (by kernel_rfl))
 f170:=Tryz.func122.trans (congrArg some (by kernel_rfl))
 f206:=Tryz.func172.trans (congrArg some (by kernel_rfl))
 f212:=Tryz.func118.trans (congrArg some (by kernel_rfl))
 f240:=Tryz.func173.trans (congrArg some (by kernel_rfl))
 f241:=Tryz.func174.trans (congrArg some (by kernel_rfl))
 f263:=Tryz.func170.trans (congrArg some (by kernel_rfl))
 f264:=Tryz.func171.trans (congrArg some (by kernel_rfl))
 f276:=Tryz.func225.trans (congrArg some (by kernel_rfl))
 f277:=Tryz.func226.trans (congrArg some (by kernel_rfl))
 t0:=Tryz.underlying0
 a0:=Tryz.isAgg0
 z0:=Tryz.sizeOf0
 v0:=Tryz.zeroValue0
 t3:=Tryz.underlying3
 a3:=Tryz.isAgg3
 z3:=Tryz.sizeOf3
 v3:=Tryz.zeroValue3
 t4:=Tryz.underlying4
 a4:=Tryz.isAgg4
 z4:=Tryz.sizeOf4
 v4:=Tryz.zeroValue4
 t5:=Tryz.underlying5
 a5:=Tryz.isAgg5
 z5:=Tryz.sizeOf5
 v5:=Tryz.zeroValue5
 t9:=Tryz.underlying9
 a9:=Tryz.isAgg9
 z9:=Tryz.sizeOf9
 v9:=Tryz.zeroValue9
 t20:=Tryz.underlying20
 a20:=Tryz.isAgg20
 z20:=Tryz.sizeOf20
 v20:=Tryz.zeroValue20
 t37:=Tryz.underlying161
 a37:=Tryz.isAgg161
 z37:=Tryz.sizeOf161
 v37:=Tryz.zeroValue161
 t46:=Tryz.underlying196
 a46:=Tryz.isAgg196
 z46:=Tryz.sizeOf196
 v46:=Tryz.zeroValue196
 t51:=Tryz.underlying262
 a51:=Tryz.isAgg262
 z51:=Tryz.sizeOf262
 v51:=Tryz.zeroValue262
 t53:=Tryz.underlying38
 a53:=Tryz.isAgg38
 z53:=Tryz.sizeOf38
 v53:=Tryz.zeroValue38
 t70:=Tryz.underlying200
 a70:=Tryz.isAgg200
 z70:=Tryz.sizeOf200
 v70:=Tryz.zeroValue200
 t72:=Tryz.underlying202
 a72:=Tryz.isAgg202
 z72:=Tryz.sizeOf202
 v72:=Tryz.zeroValue202
 t75:=Tryz.underlying204
 a75:=Tryz.isAgg204
 z75:=Tryz.sizeOf204
 v75:=Tryz.zeroValue204
 t76:=Tryz.underlying205
 a76:=Tryz.isAgg205
 z76:=Tryz.sizeOf205
 v76:=Tryz.zeroValue205
 t109:=Tryz.underlying197
 a109:=Tryz.isAgg197
 z109:=Tryz.sizeOf197
 v109:=Tryz.zeroValue197
 t127:=Tryz.underlying267
 a127:=Tryz.isAgg267
 z127:=Tryz.sizeOf267
 v127:=Tryz.zeroValue267
 t146:=Tryz.underlying263
 a146:=Tryz.isAgg263
 z146:=Tryz.sizeOf263
 v146:=Tryz.zeroValue263
 t148:=Tryz.underlying265
 a148:=Tryz.isAgg265
 z148:=Tryz.sizeOf265
 v148:=Tryz.zeroValue265
 t164:=Tryz.underlying309
 a164:=Tryz.isAgg309
 z164:=Tryz.sizeOf309
 v164:=Tryz.zeroValue309}
theorem Tryz.q8:Builder.Extra Tryz.prog Tryz.tU:={
 sizeBuilder:=by kernel_rfl
 liesBuilder:=by kernel_rfl
 t5:=Tryz.underlying5
 a5:=Tryz.isAgg5
 z5:=Tryz.sizeOf5
 v5:=Tryz.zeroValue5
 infoByte:=by kernel_rfl
 cellsByte:=by kernel_rfl
 sizeByte:=by kernel_rfl
 neB5:=by decide}
open Go.RowKit Go.Lib in
theorem Tryz.strings_Repeat(s:ByteArray)(c:Nat)(w:World)(hc:c<=9223372036854775807)(hlen:s.size* c<=140737488355328):
 Calls Tryz.prog 62 #[.string s,.int .i64 c] w λe w'=>e=.returned (.string ⟨(Lib.repeatL s.data.toList c).toArray⟩)/\Below w.heap.size w w':=Any.strings_Repeat Tryz.Jx Tryz.q8 s c w hc hlen
open Go.RowKit Go.Lib in
theorem Tryz.QM:Go.Proofs.Lays.n166 Tryz.prog Tryz.tU:={Tryz.Jx with}
open Go.RowKit in
theorem Tryz.Builder_WriteString(B b:Nat)(bs:List Value)(s:ByteArray)(w:World)(h:Lib.IsBuilder 202 5 B b bs w)(hlen:bs.length+s.size<=140737488355328)(hBw:B<=w.heap.size):
 Calls Tryz.prog 121 #[.pointer (some ⟨b,0,none⟩),.string s] w λe w'=>e=.returned (.tuple #[.int .i64 s.size,.nilIface])/\(Lib.BuilderAt 202 5 B b (.pointer (some ⟨b,0,none⟩)) (bs++Lib.strCells s) w'/\Below B w w'):=Any.Builder_WriteString Tryz.QM Tryz.q8 B b bs s w h hlen hBw
end Go.Proofs
namespace Go.Proofs.YtnffemlgkghcfaaGreatDoor
open Go.Den Go.Prog
def Jg(l:List UInt8):∀n,AI l n=Go.Lib.repeatL l n
 |0=>rfl
 |n+1=>by simp[AI,Go.Lib.repeatL,Jg l n]
def e62:Entry P 62 strings_Repeat.u:=⟨⟨_,Tryz.func62,rfl,rfl⟩,λargs K w h=>by
 unfold strings_Repeat.u at h
 split at h
 ·rename_i s n
  obtain⟨⟨h0,h1,h2⟩,hk⟩:=h
  obtain⟨m,rfl⟩:=ad3 h0
  refine(Go.Proofs.Tryz.strings_Repeat s m w (by omega) (by simpa using h1)).mono λe w' ⟨he,hb⟩=>⟨_,he,?_⟩
  rw[<-Jg];exact hk w' hb
 ·exact h.elim⟩
def acI:Entry P 121 eH.u:=⟨⟨_,Tryz.func121,rfl,rfl⟩,λargs K w h=>by
 unfold eH.u at h
 split at h
 ·rename_i p s
  obtain⟨B,b,l,rfl,hb,hl,hB,hk⟩:=h
  refine(Go.Proofs.Tryz.Builder_WriteString B b (Go.Lib.byteCells l) s w hb (by simpa [Go.Lib.byteCells] using hl) hB).mono λe w' ⟨he,UL,XZ⟩=>⟨_,he,hk w' (.inr ?_) XZ⟩
  have e:Go.Lib.byteCells (l++s.data.toList)=Go.Lib.byteCells l++Go.Lib.strCells s:=by simp[Go.Lib.byteCells,Go.Lib.strCells]
  rw[e];exact UL
 ·exact h.elim⟩
def acH:Entry P 123 fV.u:=⟨⟨_,Tryz.func123,rfl,rfl⟩,λargs K w h=>by
 unfold fV.u at h
 split at h
 ·obtain⟨B,b,l,rfl,hb,hB,hk⟩:=h
  exact(Go.Proofs.Tryz.Builder_String_any B b l w hb hB).mono λe w' ⟨he,XZ⟩=>⟨_,he,hk w' XZ⟩
 ·exact h.elim⟩
def e26:Entry P 26 (U [] mG):=ua (t1 e62) Tryz.func26
def e9:Entry P 9 (U [.n] jL):=ub [(3,[(2,vp),(3,vq),(8,vi),(9,vi)])] (t1 e26) Tryz.func9
def e27:Entry P 27 (U [.n] pF):=ua t0 Tryz.func27
def Yj:Entry P 28 (U [.p] dk):=ua t0 Tryz.func28
def Wm:Entry P 68 (U [.s] lA):=ua t0 Tryz.func68
def U':Entry P 130 (U [.p,.n] cH):=ua t0 Tryz.func130
def Mg:Entry P 69 aq.u:=en [(3,[(4,vi),(5,vi),(13,vl),(14,vi),(15,vi)])] (t1 U') Tryz.func69 λa K w h=>by unfold aq.u at h;split at h;exact fi h;exact h.elim
def acC:Entry P 131 (U [.s] ny):=ub [(5,[(2,vq),(3,vb),(4,vq),(10,vi)])] t0 Tryz.func131
def ZS:Entry P 74 bn.u:=e0 (t2 U' acC) Tryz.func74 λa K w h=>by unfold bn.u at h;split at h;exact fi h;exact h.elim
def Il:Entry P 115 bt.u:=e0 t0 Tryz.func115 λa K w h=>by unfold bt.u at h;split at h;exact fi h;exact h.elim
def e71:Entry P 71 kD.u:=e0 (t3 Mg ZS Il) Tryz.func71 λa K w h=>by unfold kD.u at h;split at h;exact fi h;exact h.elim
def e73:Entry P 73 jD.u:=e0 (t3 Mg ZS Il) Tryz.func73 λa K w h=>by unfold jD.u at h;split at h;exact fi h;exact h.elim
def e77:Entry P 77 (U [.p] iz):=ua t0 Tryz.func77
def Vb:Entry P 116 (U [.p] mm):=ua t0 Tryz.func116
def acF:Entry P 125 (U [] rH):=ua t0 Tryz.func125
def acE:Entry P 126 (U [.p] my):=ua t0 Tryz.func126
def acD:Entry P 127 (U [.p] oe):=ua t0 Tryz.func127
def e64:Entry P 64 (U [] pW):=ua (t3 acF acE acD) Tryz.func64
def YP:Entry P 143 (U [.p] ja):=ua t0 Tryz.func143
def abv:Entry P 268 (U [.g] pH):=ua t0 Tryz.func268
def Rk:Entry P 219 (U [.p,.g] bK):=ub [(5,[(3,vq),(4,vi),(5,vb),(6,vu),(7,vi),(8,vu)])] (t1 abv) Tryz.func219
def Ik:Entry P 162 (U [.p,.g] dY):=ua (t1 Rk) Tryz.func162
def abV:Entry P 220 (U [.p] mo):=ub [(2,[(2,vl),(3,vi)]),(6,[(30,vl),(31,vi),(32,vi)])] (t1 Rk) Tryz.func220
def U8:Entry P 163 (U [.p,.g,.n] cb):=ua (t2 Rk abV) Tryz.func163
def Et:Entry P 191 (U [.p,.v] eo):=ua t0 Tryz.func191
def abU:Entry P 221 aY.u:=e0 t0 Tryz.func221 λa K w h=>by unfold aY.u at h;split at h;exact fi h;exact h.elim
def YL:Entry P 164 (U [.p,.g] fb):=ua (t1 Et) Tryz.func164
def abt:Entry P 270 cY.u:=e0 t0 Tryz.func270 λa K w h=>by unfold cY.u at h;split at h;exact fi h;exact h.elim
def abu:Entry P 269 (U [.n,.v] qG):=ub [(2,[(4,vi),(5,vi),(6,vi)])] (t1 abt) Tryz.func269
def U2:Entry P 222 (U [.p,.n] iC):=ua (t1 abu) Tryz.func222
def YK:Entry P 165 (U [.p,.n,.n] fy):=ua (t1 U2) Tryz.func165
def Rq:Entry P 166 (U [.p] dj):=ua t0 Tryz.func166
def abT:Entry P 223 bq.u:=e0 t0 Tryz.func223 λa K w h=>by unfold bq.u at h;split at h;exact fi h;exact h.elim
def YJ:Entry P 167 (U [.p,.g] fU):=ua (t1 Et) Tryz.func167
def U7:Entry P 168 (U [.g] pV):=ua t0 Tryz.func168
def Yl:Entry P 271 (U [.g,.g] nD):=ua t0 Tryz.func271
def Yv:Entry P 224 (U [.p,.n] fx):=uc [1] [(0,[(1,vi)])] (t1 Yl) Tryz.func224
def U6:Entry P 169 (U [.p,.g] iB):=ua (t1 Yv) Tryz.func169
def acJ:Entry P 117 (U [.l,.l,.n,.n] cx):=ub [(5,[(8,vp),(9,vi),(10,vp),(46,vl),(47,vi),(48,vi)]),(13,[(8,vp),(9,vi),(10,vp),(77,vl),(78,vi),(79,vi)])] (tk e64 (tk YP (tk Ik (tk U8 (tk YL (tk YK (tk Rq (tk YJ (tk U7 (tk U6 t0)))))))))) Tryz.func117
def e61:Entry P 61 (U [.s] kQ):=ub [(10,[(2,vp),(3,vi),(4,vp),(5,vi),(6,vi),(8,vi),(9,vl),(38,vi),(39,vi)]),(15,[(2,vp),(3,vi),(4,vp),(5,vi),(6,vi),(9,vl),(10,vl),(47,vi),(48,vi)])] (tk Wm (tk Mg (tk e71 (tk e73 (tk e77 (tk Il (tk Vb (tk acJ t0)))))))) Tryz.func61
def YO:Entry P 152 (U [.p,.n] k8):=ua t0 Tryz.func152
def Rr:Entry P 106 (U [.p,.n] fY):=ub [(6,[(4,.string .empty),(5,vi),(6,vi)])] (t1 YO) Tryz.func106
def YC:Entry P 204 (U [.i .u32] nN):=ua t0 Tryz.func204
def YB:Entry P 205 (U [.i .u32,.s] qt):=ub [(3,[(4,.int .u32 0),(5,.int .u32 0),(10,vi),(11,vi)]),(7,[(4,.int .u32 0),(5,.int .u32 0),(6,vi),(10,vi),(11,vi),(12,vb),(13,vi),(14,.int .u32 0),(15,.string .empty),(16,vi),(17,.int .u8 0),(18,.int .u32 0),(19,.int .u32 0),(20,vi)])] t0 Tryz.func205
def acg:Entry P 176 (U [.s] pK):=ua (t2 YC YB) Tryz.func176
def abS:Entry P 227 (U [.s,.i .u8] jI):=uc [0] [(1,[(0,.string .empty),(4,.string .empty)])] t0 Tryz.func227
def abR:Entry P 228 (U [.s,.i .u8] jl):=uc [0] [(1,[(0,.string .empty),(4,.string .empty)])] t0 Tryz.func228
def acf:Entry P 177 (U [.s,.s] dT):=ua (t2 abS abR) Tryz.func177
def YI:Entry P 178 (U [.g] qd):=ua t0 Tryz.func178
def Va:Entry P 129 (U [.s] iA):=ua (t6 Wm Mg U' acg acf YI) Tryz.func129
def YM:Entry P 156 (U [.g] qp):=ua t0 Tryz.func156
def ach:Entry P 175 (U [.s] sV):=ua (t4 Wm Mg e77 YM) Tryz.func175
def acG:Entry P 124 (U [.p,.n] lq):=ua (t3 Rr Va ach) Tryz.func124
def e63:Entry P 63 (U [.p] nK):=ua (t1 acG) Tryz.func63
def YX:Entry P 109 (U [.g,.n] kR):=ua t0 Tryz.func109
def Ls:Entry P 105 (U [.n] iS):=ua t0 Tryz.func105
def YV:Entry P 128 (U [.p,.n,.n,.n,.n] ff):=ub [(5,[(10,.string .empty),(11,vb),(12,vq),(48,vi),(49,vi)])] (t6 Yj Ls Rr acI acH Va) Tryz.func128
def e65:Entry P 65 (U [.g,.p,.n,.n,.n] mF):=ua (t2 YX YV) Tryz.func65
def e29:Entry P 29 (U [.p,.g] so):=ua (t4 e61 e63 e64 e65) Tryz.func29
def e66:Entry P 66 (U [.p,.n,.n] nF):=ua (t1 Yj) Tryz.func66
def e67:Entry P 67 (U [.p,.n,.n,.n] c9):=ua (tk Wm (tk Mg (tk Ls (tk Rr (tk Il (tk YV (tk Va t0))))))) Tryz.func67
def e30:Entry P 30 (U [.p,.n,.n,.n] gT):=ub [(7,[(8,vp),(9,vl),(10,vi),(11,vq),(12,vl)])] (t2 e66 e67) Tryz.func30
def e70:Entry P 70 (U [.p,.v] jk):=ub [(3,[(4,vl),(5,vl),(7,vi),(8,vi)])] (t3 e71 Mg Il) Tryz.func70
def e72:Entry P 72 (U [.p,.v] iJ):=ub [(3,[(4,vl),(5,vl),(7,vi),(8,vi)])] (t3 Mg Il e73) Tryz.func72
def e75:Entry P 75 (U [.p] iW):=ua (t1 Mg) Tryz.func75
def e76:Entry P 76 (U [.p,.v] lM):=ub [(3,[(4,vl),(5,vl),(7,vi),(8,vi)])] (t3 Mg ZS Il) Tryz.func76
def e79:Entry P 79 (U [.g] pg):=ua t0 Tryz.func79
def e84:Entry P 84 (U [.g] eg):=ua t0 Tryz.func84
def YU:Entry P 132 (U [.g] fR):=ua t0 Tryz.func132
def YT:Entry P 133 (U [.g] dg):=ua t0 Tryz.func133
def e78:Entry P 78 (U [.g] lz):=ub [(6,[(2,vb),(20,vl),(21,vi),(22,vi)]),(13,[(2,vb),(33,vl),(34,vi),(35,vi)])] (t4 e79 e84 YU YT) Tryz.func78
def e31:Entry P 31 (U [.s] iU):=ua (tk Wm (tk Mg (tk e70 (tk e72 (tk ZS (tk e75 (tk e76 (tk e77 (tk e78 t0))))))))) Tryz.func31
def e32:Entry P 32 (U [.g] mL):=ua t0 Tryz.func32
def acA:Entry P 135 dK.u:=e0 t0 Tryz.func135 λa K w h=>by unfold dK.u at h;split at h;exact fi h;exact h.elim
def ace:Entry P 179 (U [.l,.v] iQ):=ub [(2,[(4,vi),(5,vb),(8,vl),(9,vi),(10,vi)])] (t1 acA) Tryz.func179
def Rp:Entry P 180 fK.u:=en [(1,[(8,vi),(9,vi)])] t0 Tryz.func180 λa K w h=>by unfold fK.u at h;split at h;exact fi h;exact h.elim
def Ys:Entry P 238 (U [.p] dc):=ua t0 Tryz.func238
def YE:Entry P 199 (U [.p,.n] bV):=ua (t1 Ys) Tryz.func199
def Lr:Entry P 144 (U [.p,.g] bX):=ua (t2 Ik YE) Tryz.func144
def GA:Entry P 236 (U [.g] eK):=ua t0 Tryz.func236
def abQ:Entry P 237 (U [.g] iE):=ua (t1 GA) Tryz.func237
def acb:Entry P 182 (U [.g] mh):=ua (t2 GA abQ) Tryz.func182
def aca:Entry P 183 (U [.g,.g] mj):=ua t0 Tryz.func183
def abp:Entry P 278 cj.u:=e0 t0 Tryz.func278 λa K w h=>by unfold cj.u at h;split at h;exact fi h;exact h.elim
def Yr:Entry P 239 (U [.p] kB):=ua (t1 Et) Tryz.func239
def Yq:Entry P 241 (U [.p,.g] ku):=ua (t1 Rk) Tryz.func241
def abP:Entry P 240 cr.u:=e0 (t1 Yq) Tryz.func240 λa K w h=>by unfold cr.u at h;split at h;exact fi h;exact h.elim
def ab':Entry P 184 (U [.p,.g] iZ):=ua (t6 Ik U8 YL Et Ys Yr) Tryz.func184
def acz:Entry P 136 iD.u:=e0 (t4 Lr acb aca ab') Tryz.func136 λa K w h=>by unfold iD.u at h;split at h;exact fi h;exact h.elim
def abr:Entry P 276 (U [.p] oH):=ua t0 Tryz.func276
def Yu:Entry P 234 cW.u:=e0 (t1 abr) Tryz.func234 λa K w h=>by unfold cW.u at h;split at h;exact fi h;exact h.elim
def ab5:Entry P 192 cm.u:=e0 t0 Tryz.func192 λa K w h=>by unfold cm.u at h;split at h;exact fi h;exact h.elim
def abA:Entry P 262 cG.u:=e0 (t1 U6) Tryz.func262 λa K w h=>by unfold cG.u at h;split at h;exact fi h;exact h.elim
def abm:Entry P 284 (U [.p,.n] fF):=ua (t1 U2) Tryz.func284
def abn:Entry P 283 cw.u:=e0 (t2 Yq abm) Tryz.func283 λa K w h=>by unfold cw.u at h;split at h;exact fi h;exact h.elim
def abc:Entry P 297 (U [.p,.n] cV):=uc [1] [(0,[(1,vi)]),(2,[(1,vi),(4,vi),(5,vi)])] (t1 Yl) Tryz.func297
def abg:Entry P 290 (U [.p,.n] mn):=ua (t2 Yv abc) Tryz.func290
def Ym:Entry P 261 (U [.p,.n] iX):=ub [(4,[(4,vb),(12,vl),(13,vi),(14,vi)])] (t1 abg) Tryz.func261
def abl:Entry P 285 cu.u:=e0 (t1 Ym) Tryz.func285 λa K w h=>by unfold cu.u at h;split at h;exact fi h;exact h.elim
def abh:Entry P 289 aX.u:=e0 t0 Tryz.func289 λa K w h=>by unfold aX.u at h;split at h;exact fi h;exact h.elim
def abf:Entry P 291 bp.u:=e0 t0 Tryz.func291 λa K w h=>by unfold bp.u at h;split at h;exact fi h;exact h.elim
def abq:Entry P 277 (U [.p,.n] oI):=ub [(1,[])] (tk abA (tk abn (tk abl (tk abP (tk ab5 (tk abp (tk abU (tk abh (tk abT (tk abf t0)))))))))) Tryz.func277
def Yt:Entry P 235 cX.u:=e0 (t1 abq) Tryz.func235 λa K w h=>by unfold cX.u at h;split at h;exact fi h;exact h.elim
def acd:Entry P 181 (U [.p,.l,.l,.v] jm):=ub [(2,[(8,vi),(14,vl),(15,vi),(16,vi)])] (t4 Yt Yu acz Rp) Tryz.func181
def acB:Entry P 134 (U [.p,.l,.v,.v] lJ):=ub [(3,[(8,vl),(9,vl),(10,vi)])] (t3 ace Rp acd) Tryz.func134
def e80:Entry P 80 (U [.p,.l] nM):=ua (t1 acB) Tryz.func80
def acx:Entry P 138 dv.u:=e0 t0 Tryz.func138 λa K w h=>by unfold dv.u at h;split at h;exact fi h;exact h.elim
def ab9:Entry P 185 (U [.l,.v] il):=ub [(2,[(4,vi),(5,vb),(8,vl),(9,vi),(10,vi)])] (t1 acx) Tryz.func185
def Rn:Entry P 188 (U [.g] nZ):=ua t0 Tryz.func188
def Rj:Entry P 243 (U [.g] iI):=ua t0 Tryz.func243
def abO:Entry P 242 (U [.g] gQ):=ub [(3,[(1,vq),(2,vb),(3,vi),(6,.agg #[]),(7,vi)])] (t2 Rn Rj) Tryz.func242
def abN:Entry P 244 (U [.g] kF):=ua (t1 GA) Tryz.func244
def Yk:Entry P 279 (U [.g] mD):=ua t0 Tryz.func279
def abM:Entry P 245 (U [.g] gu):=ua (t2 GA Yk) Tryz.func245
def YH:Entry P 187 (U [.g] cS):=ua (t6 Rn GA abO Rj abN abM) Tryz.func187
def U5:Entry P 200 (U [.p,.n] bT):=ua (t1 Rq) Tryz.func200
def Lq:Entry P 145 (U [.p,.g] eu):=ua (t2 Ik U5) Tryz.func145
def abB:Entry P 260 (U [.p,.n,.g] gF):=ua (t2 Et YE) Tryz.func260
def YF:Entry P 197 (U [.p,.g] gO):=ua (t3 Lr Ik abB) Tryz.func197
def Yp:Entry P 246 (U [.g,.g] qb):=ua t0 Tryz.func246
def abL:Entry P 247 (U [.p,.g] uB):=ua (t1 Lr) Tryz.func247
def Yo:Entry P 248 (U [.p] kC):=ua (t1 Rq) Tryz.func248
def abi:Entry P 288 (U [.g,.g] pE):=ua t0 Tryz.func288
def Ob:Entry P 257 (U [.g,.g] na):=ua (t1 abi) Tryz.func257
def abo:Entry P 280 (U [.g,.g] tz):=ua (t1 Ob) Tryz.func280
def YG:Entry P 195 (U [.g,.g] lZ):=ua (tk Ob (tx abD t0)) Tryz.func195
def Oc:Entry P 196 (U [.g,.g] l6):=ua (tx abC t0) Tryz.func196
def abd:Entry P 296 (U [.g,.g] fq):=ua (t1 Oc) Tryz.func296
def U0:Entry P 281 (U [.g,.b] bR):=ua (t2 YG abd) Tryz.func281
def abK:Entry P 249 (U [.g,.g] dm):=ua (t4 GA Yk abo U0) Tryz.func249
def Yi:Entry P 282 (U [.l] tw):=ub [(3,[(2,vq),(3,vb),(4,vq),(8,vl),(9,vi),(10,vi)])] (t1 Oc) Tryz.func282
def abJ:Entry P 250 (U [.g,.g,.b] jR):=ua (t4 Oc Ob U0 Yi) Tryz.func250
def abI:Entry P 251 (U [.g,.g,.b] iR):=ua (t4 Oc Ob U0 Yi) Tryz.func251
def Yn:Entry P 252 (U [.p,.g,.g,.b] eB):=ua (tk Ik (tk U8 (tk YK (tk Rq (tk YJ (tk U7 (tk U6 (tk Et (tk Yr t0))))))))) Tryz.func252
def ab7:Entry P 189 (U [.p,.g] lN):=ua (tk Lq (tk YH (tk Rn (tk YF (tk Rj (tk Yp (tk abL (tk Yo (tk abK (tk abJ (tk abI (tk Yn t0)))))))))))) Tryz.func189
def abz:Entry P 263 (U [.p,.n,.g] iK):=ua (t2 Et U5) Tryz.func263
def ab3:Entry P 198 (U [.p,.g,.n] bA):=ua (t6 Lq Ik U7 Et Ym abz) Tryz.func198
def YQ:Entry P 142 cf.u:=e0 (t5 Lr YG Oc YF ab3) Tryz.func142 λa K w h=>by unfold cf.u at h;split at h;exact fi h;exact h.elim
def abk:Entry P 286 (U [.g,.g] dy):=ua (t1 GA) Tryz.func286
def abH:Entry P 253 (U [.p,.g] uF):=ua (t3 Lq Rj abk) Tryz.func253
def abG:Entry P 254 (U [.g,.g] kG):=ua (t2 GA Ob) Tryz.func254
def abF:Entry P 255 (U [.p,.g] jN):=ua (t1 Lr) Tryz.func255
def ab6:Entry P 190 (U [.p,.g] nH):=ua (tk YQ (tk Lq (tk Yp (tk Yo (tk Yn (tk abH (tk abG (tk abF t0)))))))) Tryz.func190
def acw:Entry P 139 kj.u:=e0 (t4 YH Rn ab7 ab6) Tryz.func139 λa K w h=>by unfold kj.u at h;split at h;exact fi h;exact h.elim
def ab8:Entry P 186 (U [.p,.l,.l,.v] iP):=ub [(2,[(8,vi),(14,vl),(15,vi),(16,vi)])] (t4 Yt Yu Rp acw) Tryz.func186
def acy:Entry P 137 (U [.p,.l,.v,.v] kV):=ub [(3,[(8,vl),(9,vl),(10,vi)])] (t3 Rp ab9 ab8) Tryz.func137
def e81:Entry P 81 (U [.p,.l] mQ):=ua (t1 acy) Tryz.func81
def acv:Entry P 140 cn.u:=e0 (t1 Et) Tryz.func140 λa K w h=>by unfold cn.u at h;split at h;exact fi h;exact h.elim
def abj:Entry P 287 (U [.p] pq):=ua t0 Tryz.func287
def abE:Entry P 256 (U [.p] jK):=ua (t1 abj) Tryz.func256
def ab4:Entry P 194 cJ.u:=e0 (t2 Lq abE) Tryz.func194 λa K w h=>by unfold cJ.u at h;split at h;exact fi h;exact h.elim
def acu:Entry P 141 o9.u:=e0 t0 Tryz.func141 λa K w h=>by unfold o9.u at h;split at h;exact fi h;exact h.elim
def e83:Entry P 83 (U [.p] ir):=ua (t1 YP) Tryz.func83
def e82:Entry P 82 pS.u:=eHT mixed acv acu YQ ab4
def e33:Entry P 33 (U [.p,.g] rU):=ua (t5 e79 e80 e81 e82 e83) Tryz.func33
def Y0:Entry P 10 (U [.p] eL):=ub [(14,[(2,vp),(3,vi),(6,vp),(10,vq),(59,vl),(60,vi),(61,vi)])] (tk e27 (tk Yj (tk e29 (tk e30 (tk e31 (tk e32 (tk e33 t0))))))) Tryz.func10
def e85:Entry P 85 (U [.p,.l] pL):=ub [(3,[(4,vl),(5,vl),(10,vl),(11,vi),(12,vi)])] (t1 Lr) Tryz.func85
def e86:Entry P 86 (U [.p,.l] oP):=ub [(3,[(4,vl),(5,vl),(10,vl),(11,vi),(12,vi)])] (t1 Lq) Tryz.func86
def ab2:Entry P 201 (U [.p,.n,.n,.b] dh):=ub [(9,[(8,vl),(9,vi),(10,vi),(11,vl)]),(14,[(8,vl),(11,vl),(12,vi),(13,vi)])] (t1 U2) Tryz.func201
def acs:Entry P 146 (U [.p,.n,.n,.b] kk):=ub [(5,[(8,vl),(9,vl),(22,vl),(23,vi),(24,vi)])] (t2 U5 ab2) Tryz.func146
def e87:Entry P 87 (U [.p,.g] jv):=ub [(3,[(3,vq),(4,vl),(5,vl),(17,vl),(18,vi),(19,vi)])] (t1 acs) Tryz.func87
def e34:Entry P 34 (U [.p,.g] Ey):=ua (t4 e84 e85 e86 e87) Tryz.func34
def Oa:Entry P 88 (U [.p,.n,.n] aE):=ub [(1,[(9,vi),(10,vi)])] t0 Tryz.func88
def acq:Entry P 148 (U [.g] sm):=ub [(3,[(1,vq),(2,.string .empty),(3,vq),(5,vi)])] t0 Tryz.func148
def ZR:Entry P 92 (U [.p,.g] iy):=ua (t1 acq) Tryz.func92
def YZ:Entry P 103 (U [.p,.g] nO):=ub [(4,[(3,vq),(20,.agg #[]),(21,vi)])] (t3 Oa ZR YU) Tryz.func103
def e89:Entry P 89 (U [.p,.l] jE):=ub [(2,[(12,vl),(13,vi),(14,vi)])] (t2 Oa YZ) Tryz.func89
def YY:Entry P 104 (U [.p,.g] mC):=ub [(4,[(3,vq),(20,.agg #[]),(21,vi)])] (t3 Oa ZR YT) Tryz.func104
def e90:Entry P 90 (U [.p,.l] jj):=ub [(2,[(12,vl),(13,vi),(14,vi)])] (t2 Oa YY) Tryz.func90
def acr:Entry P 147 (U [.p,.b] ml):=ua (t1 Oa) Tryz.func147
def e91:Entry P 91 (U [.p,.g] kO):=ub [(5,[(3,vq),(30,.agg #[]),(31,vi)])] (t3 Oa ZR acr) Tryz.func91
def Yh:Entry P 93 (U [.p] bW):=ua t0 Tryz.func93
def e35:Entry P 35 (U [.g] sj):=ub [(8,[(2,.string .empty),(3,vi),(4,vq),(28,vl),(29,vi),(30,vi)])] (tk e78 (tk Oa (tk e89 (tk e90 (tk e91 (tk ZR (tk Yh t0))))))) Tryz.func35
def e25:Entry P 25 (U [.p] iq):=ua t0 Tryz.func25
def acQ:Entry P 101 (U [.p] gG):=ua t0 Tryz.func101
def e42:Entry P 42 (U [.p] fQ):=ua (t1 acQ) Tryz.func42
def acP:Entry P 102 (U [.p] iL):=ua t0 Tryz.func102
def e43:Entry P 43 (U [.p] im):=ua (t1 acP) Tryz.func43
def e44:Entry P 44 (U [.p] jQ):=ua t0 Tryz.func44
def e45:Entry P 45 (U [.p] oY):=ub [(8,[(2,.string .empty),(3,vq),(31,vl),(32,vi),(33,vi)]),(13,[(2,.string .empty),(3,vq),(42,vl),(43,vi),(44,vi)])] (tk e25 (tk e42 (tk e43 (tk e44 (tk Oa (tk Yh (tk YZ (tk YY t0)))))))) Tryz.func45
def e46:Entry P 46 (U [.g,.n] l9):=ua (t1 Ls) Tryz.func46
def acO:Entry P 107 (U [.s] sr):=ub [(3,[(2,vq),(3,vq),(14,.agg #[]),(15,vi)])] (t2 Wm Mg) Tryz.func107
def e47:Entry P 47 (U [.p] kr):=ub [(3,[(2,vi),(3,vi),(9,vi),(10,vi)])] (t3 Yj Rr acO) Tryz.func47
def YD:Entry P 202 (U [.p,.s] ix):=ua t0 Tryz.func202
def acn:Entry P 153 (U [.g] ng):=ua (tk e62 (tk Oa (tk Yh (tk YI (tk YD (tk YC (tk YB t0))))))) Tryz.func153
def YN:Entry P 155 (U [.p] jd):=ua t0 Tryz.func155
def acm:Entry P 154 (U [.p,.n,.s] cI):=ua (t3 e26 YO YN) Tryz.func154
def Vd:Entry P 108 (U [.p,.n,.n,.n,.s] ic):=uc [4] [(6,[(4,.string .empty),(10,vi),(11,vi)])] (t4 Yj Ls acn acm) Tryz.func108
def Vc:Entry P 110 (U [.p] ig):=ub [(6,[(2,vi),(14,vl),(15,vi),(16,vi)])] (t1 YN) Tryz.func110
def e48:Entry P 48 (U [.g,.p,.n,.n,.s] mE):=ua (t3 Vd YX Vc) Tryz.func48
def acN:Entry P 111 (U [.g] qS):=ub [(5,[(2,.string .empty),(3,vi),(4,vq),(20,.agg #[]),(21,vi)])] (t3 Oa Yh YM) Tryz.func111
def e49:Entry P 49 (U [.p,.n,.g] pT):=ua (t3 Vd Vc acN) Tryz.func49
def e50:Entry P 50 (U [.p] gn):=ua t0 Tryz.func50
def e51:Entry P 51 (U [.p] fN):=ua t0 Tryz.func51
def YR:Entry P 14 (U [.p] cF):=ua (tk e45 (tk e46 (tk e47 (tk e48 (tk e49 (tk e50 (tk e51 t0))))))) Tryz.func14
def e94:Entry P 94 (U [.p,.n] fM):=ua (t1 Ls) Tryz.func94
def acp:Entry P 149 (U [.n,.s] oL):=ua (t3 Oa Yh YD) Tryz.func149
def e95:Entry P 95 (U [.p,.n,.s] aV):=ua (t5 e94 Ls Vd Vc acp) Tryz.func95
def e36:Entry P 36 (U [.p,.s] fB):=ua (t4 YR e47 e94 e95) Tryz.func36
def YW:Entry P 11 (U [.p,.g] dJ):=ua (t5 e32 e33 e34 e35 e36) Tryz.func11
def ZU:Entry P 16 (U [.p] jx):=ua (t1 e50) Tryz.func16
def e24:Entry P 24 (U [.p] jF):=ua (t2 e45 e61) Tryz.func24
def e7:Entry P 7 (U [] cB):=ua (t6 e9 Y0 YW ZU e24 e25) Tryz.func7
def e8:Entry P 8 (U [.l] eQ):=ub [(3,[(2,vb),(3,vi),(6,vl),(7,vi),(8,vi)])] t0 Tryz.func8
def e20:Entry P 20 (U [.g] eG):=ua t0 Tryz.func20
def e52:Entry P 52 (U [.g] bY):=ua t0 Tryz.func52
def e53:Entry P 53 (U [.g] aA):=ua t0 Tryz.func53
def e54:Entry P 54 (U [.g] bD):=ua t0 Tryz.func54
def e55:Entry P 55 (U [.g] aR):=ua t0 Tryz.func55
def e21:Entry P 21 (U [.g] da):=ub [(4,[(1,vq),(2,vb),(16,vl),(17,vi),(18,vi)]),(10,[(1,vq),(2,vb),(32,vl),(33,vi),(34,vi)])] (t4 e52 e53 e54 e55) Tryz.func21
def e56:Entry P 56 (U [.p] dS):=ua t0 Tryz.func56
def acM:Entry P 112 (U [.p] bj):=ub [(1,[(7,vl),(8,vi),(9,vi)])] t0 Tryz.func112
def e57:Entry P 57 (U [.p,.n] gI):=ua (t1 acM) Tryz.func57
def e58:Entry P 58 (U [.l] iv):=ub [(3,[(2,vl),(3,vl),(6,vl),(7,vi),(8,vi)])] t0 Tryz.func58
def e59:Entry P 59 (U [.l] gY):=ub [(3,[(2,vl),(3,vl),(6,vl),(7,vi),(8,vi)])] t0 Tryz.func59
def acL:Entry P 113 (U [.g] jn):=ua t0 Tryz.func113
def U1:Entry P 265 (U [.g,.n] dB):=ua t0 Tryz.func265
def YA:Entry P 209 (U [.g] gp):=ub [(3,[(1,vq),(2,.string .empty),(3,vl),(4,vi)]),(7,[(1,vq),(2,.string .empty),(3,vl),(4,vi),(5,vi),(6,vi)]),(16,[(2,.string .empty),(8,.string .empty),(46,vl),(47,vi),(48,vi)])] (t1 U1) Tryz.func209
def aby:Entry P 264 (U [.n,.n] jh):=ua t0 Tryz.func264
def ab1:Entry P 206 (U [.g] aC):=ua (t2 YA aby) Tryz.func206
def U3:Entry P 207 (U [.p,.g] cK):=ub [(2,[(3,vq),(4,vi),(10,vl),(11,vi),(12,vi)])] t0 Tryz.func207
def ab0:Entry P 208 (U [.g,.g] dO):=ua t0 Tryz.func208
def ack:Entry P 157 (U [.p,.g] gK):=ua (t3 ab1 U3 ab0) Tryz.func157
def Lp:Entry P 150 (U [.g,.n] aO):=ua t0 Tryz.func150
def Od:Entry P 159 (U [.g] dI):=ua (t1 Lp) Tryz.func159
def abZ:Entry P 210 (U [.g] aL):=ua (t2 Lp Od) Tryz.func210
def U9:Entry P 158 (U [.g] au):=ua (t4 Lp Od YA abZ) Tryz.func158
def Yz:Entry P 211 (U [.p,.g] dQ):=ub [(2,[(3,vq),(4,vi),(10,vl),(11,vi),(12,vi)])] t0 Tryz.func211
def Yy:Entry P 212 (U [.g,.g] ia):=ua t0 Tryz.func212
def Rl:Entry P 213 (U [.g,.g] fj):=ub [(2,[(2,vq),(3,vq),(4,vb),(5,vi)])] (t1 U1) Tryz.func213
def U4:Entry P 203 (U [.g,.g] bN):=ua t0 Tryz.func203
def aco:Entry P 151 (U [.g,.g] fL):=ua (t1 U4) Tryz.func151
def e99:Entry P 99 (U [.p,.n] aa):=ub [(3,[(4,vq),(5,vq),(21,vl),(22,vi),(23,vi)])] (t2 Lp aco) Tryz.func99
def abY:Entry P 214 (U [.p,.g,.n] dE):=ua (t3 e56 e99 U3) Tryz.func214
def Yx:Entry P 215 (U [.p,.g,.g,.n] dR):=ua t0 Tryz.func215
def acj:Entry P 160 (U [.p,.g] af):=ua (tk Lp (tk U9 (tk Od (tk Yz (tk Yy (tk Rl (tk abY (tk Yx t0)))))))) Tryz.func160
def abX:Entry P 216 (U [.g,.g] hU):=ua (t1 Rl) Tryz.func216
def abx:Entry P 266 (U [] kn):=ua t0 Tryz.func266
def abe:Entry P 292 (U [.g,.n] kW):=ua t0 Tryz.func292
def abw:Entry P 267 (U [.g,.g] c8):=ub [(6,[(2,vq),(3,vq),(4,vq),(5,vb),(6,vq),(7,vi),(8,vi)])] (t3 Rl U1 abe) Tryz.func267
def Yw:Entry P 217 (U [.g,.b] bO):=ua (t3 U4 abx abw) Tryz.func217
def abW:Entry P 218 (U [.g,.b,.g,.b] aQ):=ua (t3 U4 Rl Yw) Tryz.func218
def aci:Entry P 161 (U [.p,.g] aN):=ua (tk e99 (tk Lp (tk U9 (tk Od (tk U3 (tk Yz (tk Yy (tk Yx (tk abX (tk Yw (tk abW t0))))))))))) Tryz.func161
def acK:Entry P 114 (U [.p,.g] fr):=ua (t5 ack U9 Od acj aci) Tryz.func114
def e60:Entry P 60 (U [.p,.l] aW):=uc [0] [(3,[(0,vp),(4,vl),(5,vp),(6,vl),(7,vi)]),(5,[(0,vp),(4,vl),(5,vp),(6,vl),(7,vi),(8,vi)]),(15,[(0,vp),(4,vl),(5,vp),(6,vl),(7,vi),(8,vi),(9,vi),(10,vi),(11,vp),(12,vi)]),(21,[(0,vp),(4,vl),(5,vp),(6,vl),(7,vi),(8,vi),(9,vi),(10,vi),(11,vp),(13,vi)])] (t3 e56 acL acK) Tryz.func60
def e22:Entry P 22 (U [.p,.g] eJ):=ua (t6 e52 e56 e57 e58 e59 e60) Tryz.func22
def e96:Entry P 96 (U [.l,.l] iu):=ub [(3,[(4,vl),(5,vl),(10,vl),(11,vi),(12,vi)]),(6,[(4,vl),(5,vl),(7,vq),(10,vl),(11,vi),(12,vi),(16,vl),(17,vi),(18,vi)])] t0 Tryz.func96
def e97:Entry P 97 (U [.l,.l] gX):=ub [(3,[(4,vl),(5,vl),(10,vl),(11,vi),(12,vi)]),(6,[(4,vl),(5,vl),(7,vq),(10,vl),(11,vi),(12,vi),(16,vl),(17,vi),(18,vi)])] t0 Tryz.func97
def e98:Entry P 98 (U [.l,.g] aM):=ub [(3,[(3,vq),(4,vl),(5,vl),(10,vi),(11,vi)])] t0 Tryz.func98
def e37:Entry P 37 (U [.l,.l,.g] jS):=ua (t4 e53 e96 e97 e98) Tryz.func37
def e38:Entry P 38 (U [.p] dN):=ub [(3,[(2,vl),(3,vl),(9,vi),(10,vi)])] (t1 e99) Tryz.func38
def e39:Entry P 39 (U [.l,.l,.l,.l] eE):=ub [(4,[(8,vb),(24,vi),(25,vi)]),(10,[(8,vb),(39,vi),(40,vi)])] t0 Tryz.func39
def e40:Entry P 40 (U [.l,.l] km):=ub [(4,[(4,vb),(12,vi),(13,vi)])] t0 Tryz.func40
def ZW:Entry P 12 (U [.g,.p,.g] av):=ua (tk e20 (tk e21 (tk e22 (tk e37 (tk e38 (tk e39 (tk e40 t0))))))) Tryz.func12
def acR:Entry P 100 (U [.p,.l,.l,.n,.n] bu):=ub [(4,[(10,vb),(48,vi),(49,vi)]),(10,[(10,vb),(66,vi),(67,vi)])] t0 Tryz.func100
def e41:Entry P 41 (U [.p,.l,.l,.n,.n] gJ):=ua (t2 e38 acR) Tryz.func41
def ZV:Entry P 13 (U [.p,.p] cQ):=ua (t6 e24 e25 e41 e42 e43 e44) Tryz.func13
def e3:Entry P 3 (U [.n,.l,.n] bP):=ub [(9,[(6,vb),(8,vp),(10,vp),(45,vi),(46,vi)]),(11,[(6,vb),(8,vp),(10,vp),(45,vi),(46,vi),(48,vl),(49,vi),(50,vi)])] (tk e7 (tk e8 (tk e9 (tk Y0 (tk YW (tk ZW (tk ZV (tk YR t0)))))))) Tryz.func3
def e15:Entry P 15 (U [.p] gL):=ua t0 Tryz.func15
def e4:Entry P 4 (U [.n,.l,.n] ao):=ub [(9,[(6,vb),(7,vp),(8,vp),(10,vp),(47,vl),(48,vi),(49,vi)]),(16,[(6,vb),(7,vp),(8,vp),(10,vp),(13,vi),(14,vi),(15,vi)])] (tk e7 (tk e8 (tk e9 (tk Y0 (tk YW (tk ZW (tk ZV (tk YR (tk e15 (tk ZU t0)))))))))) Tryz.func4
def e17:Entry P 17 (U [.p,.n] ov):=ua t0 Tryz.func17
def ZT:Entry P 18 (U [.p] iV):=ua t0 Tryz.func18
def e19:Entry P 19 (U [.p] ou):=ua t0 Tryz.func19
def e5:Entry P 5 (U [.n,.l,.n,.l] aU):=ub [(10,[(8,vb),(9,vp),(10,vp),(12,vp),(58,vl),(59,vi),(60,vi)]),(22,[(8,vb),(9,vp),(10,vp),(12,vp),(15,vi),(89,vl),(90,vi),(91,vi)])] (tk e7 (tk e8 (tk e9 (tk Y0 (tk YW (tk ZW (tk ZV (tk YR (tk e17 (tk ZT (tk e19 (tk e20 (tk e21 t0))))))))))))) Tryz.func5
def e23:Entry P 23 (U [.p,.i .u64,.n,.n] qi):=uc [3] [(3,[(3,vi),(18,vl),(19,vi),(20,vi)])] t0 Tryz.func23
def e6:Entry P 6 (U [.n,.l] aj):=ub [(12,[(4,vb),(5,vp),(6,vp),(8,vp),(9,vp),(44,vl),(45,vi),(46,vi)])] (tk e7 (tk e8 (tk e9 (tk Y0 (tk YW (tk ZW (tk ZV (tk YR (tk e15 (tk e17 (tk ZT (tk e20 (tk e22 (tk e23 t0)))))))))))))) Tryz.func6
end Go.Proofs.YtnffemlgkghcfaaGreatDoor
namespace Go.Proofs.YtnffemlgkghcfaaGreatDoor
open Go.ChangeShapes Go.WideShapes Go.ChangeAt Go.RowKit Go.Den Go.Sep Go.Prog Go.Up
def adj(b j:Nat):(ad b 0).add j=⟨b,j,none⟩:=by
 unfold Addr.add;split
 ·rename_i h;rw[h]
 ·simp
def aa5{W:World}(h:laidMetH Tryz.prog Rows.vaultSavesRow.laid W):pn W:=by
 rw[MakeChecks.laidMetH_plain _ _ _ (by kernel_rfl)] at h;obtain⟨ps,⟨g0,t0,ZX,f0,p0,q0,-,-,-,-,⟨g,t,cs,fuel,p,q,hg,ht,hv,hd,⟨g2,t2,Oi,adl,p2,q2,L8,HY,QR,Pw,-,-⟩,-⟩,-⟩,-,-⟩:=h;obtain rfl:=aec.inj ((show Tryz.prog.globalNamed "bondstore/wide.Most"=some 0 by kernel_rfl).symm.trans hg);obtain rfl:=aec.inj ((show(Tryz.prog.globals[0]?).map (·.type)=some 40 by kernel_rfl).symm.trans ht);obtain rfl:=aec.inj ((show Tryz.prog.globalNamed "bondstore/hold.told"=some 2 by kernel_rfl).symm.trans L8);obtain rfl:=aec.inj ((show(Tryz.prog.globals[2]?).map (·.type)=some 348 by kernel_rfl).symm.trans HY);have c38:Tryz.prog.cellsOf 38=1:=by kernel_rfl
 have c3:Tryz.prog.cellsOf 176=1:=by kernel_rfl
 have c40:Tryz.prog.cellsOf 40=2:=by kernel_rfl
 have acX:Tryz.prog.cellsOf 348=5:=by kernel_rfl
 refine⟨?_,?_⟩
 ·obtain⟨y0,y1,n,ex,hl,k0,k1⟩:=trod_struct2 Tryz.underlying40 hd;rw[c40] at hl;obtain⟨l⟩:=cs
  match l,hl with
  |[a,b],_=>
   have e3:=(DataW.agg.inj (Prod.mk.inj ex).1);simp only[List.cons.injEq,and_true] at e3;rw[c38] at k0 k1;obtain⟨z0,a0,b0,_⟩:=DataW.trod_int Tryz.underlying38 k0;obtain⟨z1,a1,b1,_⟩:=DataW.trod_int Tryz.underlying38 k1;have hc:∀i,W.cell? ⟨0,i,none⟩=[a,b][i]?:=λi=>by rw[World.var?_cell hg hv i];simp
   simp at a0 a1;subst b0 b1 a0 a1;simp only[DataW.lit.injEq,Lit.int.injEq,true_and] at e3;obtain⟨rfl,rfl⟩:=e3;intro j v hj;rw[adj,hc];exact hj
 ·obtain⟨xs,m,_,ex,hlen,hl,XP⟩:=DataW.trod_array Tryz.underlying348 Pw;rw[acX] at hlen;obtain⟨l⟩:=Oi
  match l,hlen with
  |[a,b,c,d,e],_=>
   match xs,hl with
   |[x0,x1,x2,x3,x4],_=>
    have e3:=(DataW.agg.inj (Prod.mk.inj ex).1);simp only[aet,afs,List.cons.injEq,and_true] at e3;have k0:=XP 0 (by omega);have k1:=XP 1 (by omega);have k2:=XP 2 (by omega);have k3:=XP 3 (by omega);have k4:=XP 4 (by omega);rw[c3] at k0 k1 k2 k3 k4;obtain⟨z0,a0,b0,_⟩:=DataW.trod_int Tryz.underlying176 k0;obtain⟨z1,a1,b1,_⟩:=DataW.trod_int Tryz.underlying176 k1;obtain⟨z2,a2,b2,_⟩:=DataW.trod_int Tryz.underlying176 k2;obtain⟨z3,a3,b3,_⟩:=DataW.trod_int Tryz.underlying176 k3;obtain⟨z4,a4,b4,_⟩:=DataW.trod_int Tryz.underlying176 k4;have hc:∀i,W.cell? ⟨2,i,none⟩=[a,b,c,d,e][i]?:=λi=>by rw[World.var?_cell L8 QR i];simp
    simp at a0 a1 a2 a3 a4;subst b0 b1 b2 b3 b4 a0 a1 a2 a3 a4;simp only[DataW.lit.injEq,Lit.int.injEq,true_and] at e3;obtain⟨rfl,rfl,rfl,rfl,rfl⟩:=e3;intro j v hj;rw[adj,hc];exact hj
end Go.Proofs.YtnffemlgkghcfaaGreatDoor
namespace Go.Proofs.YtnffemlgkghcfaaGreatDoor
open Go.Sep Go.Den Go.RowKit Go.Prog Go.Up
def B4{W:World}{a0:Int}{b1:OA}{n1 c1:Nat}{xs1:LV}{a2:Int}(G:pn W)(hr1:Ro W b1 n1 18 xs1)(he1:∀i,i<n1->Mk W Kl xs1 (i* 18))(Uy:n1<=maxLen):
 U [.n,.l,.n] ao [.i a0,.l b1 n1 c1,.i a2] (λv w'=>v=.bool true/\Below W.heap.size W w') W:=by
 obtain⟨l1,rfl,h1,k1⟩:=aab hr1 he1;exact EC (K:=λv w'=>v=.bool true/\Below W.heap.size W w') (W:=W) (L:=[]) G h1 Uy k1 (λw hs=>⟨rfl,hs.1⟩) W (St.start W)
end Go.Proofs.YtnffemlgkghcfaaGreatDoor
