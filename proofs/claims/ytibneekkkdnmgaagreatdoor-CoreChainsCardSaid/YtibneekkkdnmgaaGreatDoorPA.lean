/- Part of the proof: see the last text. -/
import Derived.OrdersHeld
import Derived.Calls
import Derived.KernelRfl
import Derived.Laws.Append
import Derived.Laws.CopyRow
import Derived.Tactics
import Derived.WalkKit
import Derived.Laws.BytesString
import Derived.Laws.MakeOwn
import Derived.Below
import Derived.Lib.Builder
import Derived.Lib.UnsafeStr
set_option linter.all false
set_option maxRecDepth 100000
set_option synthInstance.maxSize 100000
open Array renaming replicate→jH,ext'→uF
open Bool renaming false_eq_true→cG,and_eq_true→dh,not_false→OQ,false_ne_true→cJ,true_and→dI
open Go.IntKind renaming i64→aa
open Int renaming toNat_natCast→ak
open List renaming range→pK,map_cons→dA,getElem?_eq_getElem→aj,getElem?_eq_none→pU,append_assoc→aH,nil_append→cT,take_append_drop→dk,drop_drop→iL,cons_append→lH,map_nil→uk,getElem?_eq_some_iff→av,getElem?_map→dU,mem_cons_of_mem→fJ,drop_zero→iK,getElem?_range→q8,getElem?_cons_zero→Hb,getElem?_cons_succ→bT,mem_cons→jX,mem_of_find?_eq_some→ni,mem_filter→AQ,Perm→bX,length_cons→aW,getElem?_append_left→cO,getElem?_append_right→iJ,set_set→jC,set_cons_succ→lA,getElem?_drop→lC,ext_getElem?→oz,getElem?_set_ne→OP,length_append→au,length_drop→aR,append_nil→bO,map_append→cU,mem_map→dF,drop_of_length_le→fB,map_congr_left→mI,map_map→um,take_append_of_le_length→zJ,replicate→bj,drop_eq_getElem_cons→gZ,take_length→aV,length_map→bY,getElem_mem→cb,mem_of_getElem?→cn,mem_or_eq_of_mem_set→fm,getD_eq_getElem?_getD→jT,take_succ_eq_append_getElem→qA,length_nil→cK,getElem?_set→cW,length_singleton→pT
open Nat renaming beq→ix,eq_of_beq_eq_true→eH,zero_le→aE,add_zero→gK,le_of_ble_eq_true→aI,le_refl→aF,zero_add→aD,mul_le_mul_right→iw,add_mul→mn,reduceAdd→ae,reduceMul→ag,mul_one→mm
open Option renaming some→bE,getD_some→dz
namespace Go
abbrev OA:=Option Addr
abbrev LV:=List Value
abbrev BA:=ByteArray
abbrev Value.i(n:Int):Value:=.int .i64 n
abbrev Value.u(n:Int):Value:=.int .u64 n
abbrev Value.p(a:OA):Value:=.pointer a
abbrev Value.l(a:OA)(n c:Nat):Value:=.slice a n c
abbrev Value.b(x:Bool):Value:=.bool x
abbrev Value.s(x:BA):Value:=.string x
abbrev Value.g(x:LV):Value:=.agg ⟨x⟩
abbrev Value.t(x:LV):Value:=.tuple ⟨x⟩
abbrev ah(r:Nat):OA:=some ⟨r,0,none⟩
def af:=@if_neg
def ai:=@if_pos
def aq:=@decide_eq_false
def aw:=@decide_eq_true
def aQ:=@absurd
def aS:=@of_decide_eq_true
def bq:=@of_decide_eq_false
def eY:=@bne_iff_ne
def vL:=@beq_iff_eq
end Go
namespace Go.Den
abbrev Env:=List (Nat×Value)
abbrev WK:=World->Prop
abbrev VK:=Value->World->Prop
abbrev WP:=LV->VK->WK
abbrev GH:=List (Nat×WP)
def lk:Env->Nat->Option Value
 |[],_=>none
 |(s,v)::e,t=>bif ix s t then some v else lk e t
def no:WK:=λ_=>False
def ev(e:Env):Operand->Option Value
 | .tmp t=>lk e t
 | .const v=>some v
 | .global g=>some (.pointer (some ⟨g,0,none⟩))
 | .func f=>some (.func (.func f) #[] #[])
def RE(e:Env):List Operand->Option (LV)
 |[]=>some []
 |x::xs=>match ev e x with
  |some v=>match RE e xs with
   |some vs=>some (v::vs)
   |none=>none
  |none=>none
def cu(p:Prop)(K:WK):WK:=λw=>p/\K w
def br(b:Bool)(X Y:WK):WK:=match b with|true=>X|false=>Y
def nn(p:OA)(K:Addr->WK):WK:=match p with|some a=>K a|none=>no
def xI(k:IntKind)(K:Int->WK):VK:=λv w=>∃n,v=.int k n/\K n w
def xB(K:Bool->WK):VK:=λv w=>∃b,v=.bool b/\K b w
def xS(K:BA->WK):VK:=λv w=>∃s,v=.string s/\K s w
def xP(K:OA->WK):VK:=λv w=>∃p,v=.pointer p/\K p w
def xL(K:OA->Nat->Nat->WK):VK:=λv w=>∃b n c,v=.slice b n c/\K b n c w
def xA(n:Nat)(K:LV->WK):VK:=λv w=>∃cs,v=.agg ⟨cs⟩/\cs.length=n/\K cs w
def M3(z:Value)(K:VK):VK:=match z with
 | .int k _=>xI k λn=>K (.int k n)
 | .bool _=>xB λb=>K (.bool b)
 | .string _=>xS λs=>K (.string s)
 | .pointer _=>xP λp=>K (.pointer p)
 | .slice _ _ _=>xL λb n c=>K (.slice b n c)
 | .agg zs=>xA zs.size λcs=>K (.agg ⟨cs⟩)
 |_=>K
def x0(K:WK):VK:=λv w=>v=.tuple ⟨[]⟩/\K w
def x2(K:Value->Value->WK):VK:=λv w=>∃a b,v=.tuple ⟨[a,b]⟩/\K a b w
def x3(K:Value->Value->Value->WK):VK:=λv w=>∃a b c,v=.tuple ⟨[a,b,c]⟩/\K a b c w
def xT(z:Value)(K:VK):VK:=match z with
 | .tuple zs=>match zs.toList with
   |[]=>x0 (K (.tuple ⟨[]⟩))
   |[y,z]=>x2 λa b=>M3 y (λa=>M3 z (λb=>K (.tuple ⟨[a,b]⟩)) b) a
   |[x,y,z]=>x3 λa b c=>M3 x (λa=>M3 y (λb=>M3 z (λc=>K (.tuple ⟨[a,b,c]⟩)) c) b) a
   |_=>λ_=>no
 |z=>M3 z K
def aeM(z:Value)(f:Value->Prop):Prop:=match z with
 | .int k _=>∀n,f (.int k n)
 | .bool _=>∀b,f (.bool b)
 | .string _=>∀s,f (.string s)
 | .pointer (some _)=>∀a,f (.pointer (some a))
 | .pointer none=>∀p,f (.pointer p)
 | .slice _ _ _=>∀b n c,f (.slice b n c)
 | .agg _=>∀cs:LV,f (.agg ⟨cs⟩)
 |_=>∀v,f v
def Gm:LV->(LV->Prop)->Prop
 |[],f=>f []
 |z::zs,f=>aeM z λv=>Gm zs λvs=>f (v::vs)
def fits(z v:Value):Bool:=match z,v with
 | .int k _,.int k' _=>decide (k=k')
 | .bool _,.bool _=>true
 | .string _,.string _=>true
 | .pointer none,.pointer _=>true
 | .pointer (some _),.pointer (some _)=>true
 | .slice _ _ _,.slice _ _ _=>true
 | .agg _,.agg _=>true
 | .int _ _,_=>false
 | .bool _,_=>false
 | .string _,_=>false
 | .pointer _,_=>false
 | .slice _ _ _,_=>false
 | .agg _,_=>false
 |_,_=>true
def ld(a:Addr)(K:VK):WK:=λw=>∃v,w.cell? a=some v/\K v w
def yg(w:World)(a:Addr)(cs:LV):Prop:=∀j v,cs[j]?=some v->w.cell? (a.add j)=some v
def aJ(a:Addr)(n:Nat)(K:LV->WK):WK:=λw=>∃cs,cs.length=n/\yg w a cs/\K cs w
def st(a:Addr)(v:Value)(K:WK):WK:=λw=>v.oneCell'=true/\(∃o,w.cell? a=some o)/\w.frozen? a=false/\K (w.setCell a v)
def Af(w:World)(a:Addr)(i:Nat):LV->World
 |[]=>w
 |v::r=>Af (w.setCell (a.add i) v) a (i+1) r
def xU(w:World)(a:Addr)(i:Nat)(cs:LV):Prop:=
 (∀v∈cs,v.oneCell'=true)/\∀j,j<cs.length->(∃o,w.cell? (a.add (i+j))=some o)/\w.frozen? (a.add (i+j))=false
def jU(a:Addr)(cs:LV)(K:WK):WK:=λw=>xU w a 0 cs/\K (Af w a 0 cs)
def mk(cs:LV)(K:Nat->WK):WK:=λw=>∀t,K w.heap.size (w.alloc (.cells ⟨cs⟩ t))
def mkT(t:TypeId)(cs:LV)(K:Nat->WK):WK:=λw=>K w.heap.size (w.alloc (.cells ⟨cs⟩ t))
def tick(K:WK):WK:=λw=>K w.drew
def Mk(T:GH)(f:Nat):WP:=match T with
 |[]=>λ_ _=>no
 |(g,p)::r=>bif ix g f then p else Mk r f
def iY(b:OA)(len:Nat)(i:Int)(size:Nat)(K:Addr->WK):WK:=
 λw=>∃a,b=some a/\(0<=i/\i<len)/\K (a.add (i.toNat* size)) w
def zQ(s:BA)(i:Int)(K:UInt8->WK):WK:=λw=>∃c,(0<=i/\s.data.toList[i.toNat]?=some c)/\K c w
def Dg(cs:LV)(len:Nat)(i:Int)(K:VK):WK:=λw=>∃v,(0<=i/\i<len/\cs[i.toNat]?=some v)/\K v w
def ym(b:OA)(cap l size:Nat):OA:=if cap=l then b else b.map (·.add (l* size))
def rJ(b:OA)(len cap size:Nat)(lo hi:Option Int)(K:OA->Nat->Nat->WK):WK:=
 match hi with
 |none=>match lo with
  |none=>K (ym b cap 0 size) len cap
  |some l=>cu (0<=l/\l<=len) (K (ym b cap l.toNat size) (len-l.toNat) (cap-l.toNat))
 |some h=>cu (0<=h/\h<=cap) (match lo with
  |none=>K (ym b cap 0 size) h.toNat cap
  |some l=>cu (0<=l/\l<=h) (K (ym b cap l.toNat size) (h.toNat-l.toNat) (cap-l.toNat)))
def mG(s:BA)(lo hi:Option Int)(K:BA->WK):WK:=
 match hi with
 |none=>match lo with
  |none=>K (s.extract 0 s.size)
  |some l=>cu (0<=l/\l<=s.size) (K (s.extract l.toNat s.size))
 |some h=>cu (0<=h/\h<=s.size) (match lo with
  |none=>K (s.extract 0 h.toNat)
  |some l=>cu (0<=l/\l<=h) (K (s.extract l.toNat h.toNat)))
def Src(w:World)(n size:Nat)(b:OA)(cs:LV):Prop:=
 cs.length=n* size/\∀a,b=some a->yg w a cs
def strCells(s:BA):LV:=s.data.toList.map λc=>.int .u8 c.toNat
def Yu(size bytes:Nat)(zero:LV)(b:OA)(len cap n:Nat)(new:LV)(K:OA->Nat->Nat->WK):WK:=λw=>
 (len+n<=cap->(∀a,b=some a->xU w (a.add (len* size)) 0 new/\K b (len+n) cap (Af w (a.add (len* size)) 0 new))/\(b=none->K b (len+n) cap w))/\
 (cap<len+n->(len+n)* bytes<=140737488355328/\(len+n:Nat)<=(9223372036854775807:Int)/\∃old,Src w len size b old/\(b=none->len=0)/\
  ∀c' t,len+n<=c'->K (some ⟨w.heap.size,0,none⟩) (len+n) c' (w.drew.alloc (.cells ((old++new).toArray++Builtin.zeroCells ⟨zero⟩ (c'-(len+n))) t)))
def iN(size bytes:Nat)(zero:LV)(b:OA)(len cap:Nat)(b':OA)(n:Nat)(K:OA->Nat->Nat->WK):WK:=λw=>
 ∃new,Src w n size b' new/\(b'=none->n=0)/\Yu size bytes zero b len cap n new K w
def Gl(b:OA)(len cap:Nat)(s:BA)(K:OA->Nat->Nat->WK):WK:=
 Yu 1 1 [.int .u8 0] b len cap s.size (strCells s) K
def bytesOf(cs:LV):List UInt8:=cs.map λ| .int _ n=>UInt8.ofNat n.toNat|_=>0
def U2(b:OA)(n:Nat)(K:BA->WK):WK:=λw=>
 (b=none->K .empty w)/\∀a,b=some a->∃cs,cs.length=n/\yg w a cs/\(∀v∈cs,∃m,v=.int .u8 m)/\K ⟨⟨bytesOf cs⟩⟩ w
def s2b(s:BA)(K:Nat->Nat->WK):WK:=λw=>
 ∀c t,s.size<=c->K w.heap.size c ((w.drew.alloc (.cells ((strCells s).toArray++jH (c-s.size) (.int .u8 0)) t)).freeze ⟨w.heap.size,c,none⟩ 1)
def Lh(bytes:Nat)(zero:LV)(len cap:Int)(K:OA->Nat->Nat->WK):WK:=λw=>
 (0<=len/\len<=cap/\cap<=9223372036854775807/\cap* bytes<=281474976710656)/\
 ∀t,K (some ⟨w.heap.size,0,none⟩) len.toNat cap.toNat (w.alloc (.cells (Builtin.zeroCells ⟨zero⟩ cap.toNat) t))
def UJ(size:Nat)(b:OA)(len:Nat)(b':OA)(Xk:Nat)(K:Nat->WK):WK:=λw=>
 ∃new,Src w (min Xk len) size b' new/\(b'=none->min Xk len=0)/\(b=none->K (min Xk len) w)/\∀a,b=some a->xU w a 0 new/\K (min Xk len) (Af w a 0 new)
def Yg(cs:LV)(b:OA)(len:Nat)(K:WK):WK:=λw=>
 (b=none\/len=0->K w)/\∀a,b=some a->len≠0->xU w a 0 cs/\K (Af w a 0 cs)
def wN(T:GH)(v:Value)(args:LV)(K:VK):WK:=match v with
 | .func (.func g) first cap=>Mk T g (first.toList++args++cap.toList) K
 |_=>no
def Zk(v:Value)(K:VK):WK:=match v with
 | .pointer p=>nn p λa=>K (.pointer (some a))
 | .func (.func g) first cap=>K (.func (.func g) first cap)
 |_=>no
end Go.Den
namespace Go.Den
def de(k:IntKind)(op:BinOp)(x y:Int):Int:=
 match op with
 | .and=>k.wrap ((BitVec.ofInt k.bits x&&&BitVec.ofInt k.bits y).toNat)
 | .or=>k.wrap ((BitVec.ofInt k.bits x|||BitVec.ofInt k.bits y).toNat)
 | .xor=>k.wrap ((BitVec.ofInt k.bits x^^^BitVec.ofInt k.bits y).toNat)
 |_=>k.wrap ((BitVec.ofInt k.bits x&&&~~~BitVec.ofInt k.bits y).toNat)
def shl(k:IntKind)(x y:Int):Int:=k.wrap (x* 2^(min y.toNat k.bits))
def shr(k:IntKind)(x y:Int):Int:=x.fdiv (2^(min y.toNat k.bits))
def FK(op:BinOp)(k:IntKind)(x y:Int)(K:VK):WK:=
 match op with
 | .add=>K (.int k (k.wrap (x+y)))
 | .sub=>K (.int k (k.wrap (x-y)))
 | .mul=>K (.int k (k.wrap (x* y)))
 | .quo=>cu (y≠0) (K (.int k (k.wrap (x.tdiv y))))
 | .rem=>cu (y≠0) (K (.int k (x.tmod y)))
 | .and=>K (.int k (de k .and x y))
 | .or=>K (.int k (de k .or x y))
 | .xor=>K (.int k (de k .xor x y))
 | .andNot=>K (.int k (de k .andNot x y))
 | .eql=>K (.bool (x==y))
 | .neq=>K (.bool (x !=y))
 | .lss=>K (.bool (decide (x<y)))
 | .leq=>K (.bool (decide (x<=y)))
 | .gtr=>K (.bool (decide (x>y)))
 | .geq=>K (.bool (decide (x>=y)))
 | .shl=>cu (0<=y) (K (.int k (shl k x y)))
 | .shr=>cu (0<=y) (K (.int k (shr k x y)))
def pP(x y:BA):Bool:=x.toList==y.toList
def Nj(op:BinOp)(x y:BA)(K:VK):WK:=
 match op with
 | .add=>cu (((x.size+y.size:Nat):Int)<=9223372036854775807) (K (.string (x++y)))
 | .eql=>K (.bool (pP x y))
 | .neq=>K (.bool (!pP x y))
 |_=>no
abbrev Vw:=List (Nat×LV)
def Ij:Vw->Nat->Option (LV)
 |[],_=>none
 |(t,z)::r,u=>bif ix t u then some z else Ij r u
def o0:LV->LV->Bool
 |[],[]=>true
 |z::zs,v::vs=>fits z v&&o0 zs vs
 |_,_=>false
def AF(x y:Value):Bool:=match x,y with
 | .int _ a,.int _ b=>a==b
 | .bool a,.bool b=>a==b
 | .string a,.string b=>pP a b
 |_,_=>false
def jf:LV->LV->Bool
 |[],[]=>true
 |x::xs,y::ys=>AF x y&&jf xs ys
 |_,_=>false
def rT(zs xs ys:LV)(K:Bool->WK):WK:=λw=>(o0 zs xs=true/\o0 zs ys=true)/\K (jf xs ys) w
def Ox(P:Program)(E:Vw)(op:BinOp)(t:TypeId)(x y:Value)(K:VK):WK:=
 match x,y with
 | .int k a,.int k' b=>match op with
   | .shl=>FK .shl k a b K
   | .shr=>FK .shr k a b K
   |op=>bif decide (k=k') then FK op k a b K else no
 | .string a,.string b=>Nj op a b K
 | .bool a,.bool b=>match P.underlying t,op with
   |some .bool,.eql=>K (.bool (a==b))
   |some .bool,.neq=>K (.bool (!(a==b)))
   |_,_=>no
 | .pointer p,.pointer none=>match P.underlying t,op with
   |some (.pointer _),.eql=>K (.bool p.isNone)
   |some (.pointer _),.neq=>K (.bool (!p.isNone))
   |_,_=>no
 | .slice p _ _,.slice none _ _=>match P.underlying t,op with
   |some (.slice _),.eql=>K (.bool p.isNone)
   |some (.slice _),.neq=>K (.bool (!p.isNone))
   |_,_=>no
 | .agg xs,.agg ys=>match Ij E t,op with
   |some zs,.eql=>rT zs xs.toList ys.toList λb=>K (.bool b)
   |some zs,.neq=>rT zs xs.toList ys.toList λb=>K (.bool (!b))
   |_,_=>no
 |_,_=>no
def SM(op:UnOp)(x:Value)(K:VK):WK:=
 match op,x with
 | .not,.bool b=>K (.bool (!b))
 | .neg,.int k n=>K (.int k (k.wrap (0-n)))
 | .xor,.int k n=>K (.int k (de k .xor (if k.signed then-1 else k.max) n))
 |_,_=>no
def Ej(P:Program)(s d:TypeId)(x:Value)(K:VK):WK:=
 match P.underlying s with
 |none=>no
 |some sd=>match P.underlying d,x with
  |some (.int k),.int _ n=>K (.int k (k.wrap n))
  |some .string,.string _=>K x
  |some (.slice e),.string b=>match P.underlying e with
   |some (.int .u8)=>s2b b λr c=>K (.slice (some ⟨r,0,none⟩) b.size c)
   |_=>no
  |some .string,.slice p n _=>match sd with
   | .slice e=>match P.underlying e with
     |some (.int .u8)=>U2 p n λb=>K (.string b)
     |_=>no
   |_=>no
  |_,_=>no
def zeroOf(P:Program)(t:TypeId):Option Value:=
 match P.info? t with
 |some i=>i.zero
 |none=>none
def fA(v:Value):LV:=match v with| .agg cs=>cs.toList|v=>[v]
def tP(d:TypeDesc):Bool:=match d with| .struct _| .array _ _=>true|_=>false
def Bp(r:Nat):Value:=.pointer (some ⟨r,0,none⟩)
def Ho(P:Program)(t:TypeId):Bool:=
 match P.underlying t with
 |some (.struct fs)=>match fs.toList with
  |[f,g]=>match P.underlying f.type,P.underlying g.type with
   |some (.pointer e),some (.slice _)=>ix e t
   |_,_=>false
  |_=>false
 |_=>false
def Bz(P:Program)(t:TypeId)(a:Addr)(K:LV->VK):WK:=
 match P.underlying t,P.info? t with
 |some d,some i=>bif tP d then aJ a i.size λcs=>K cs (.agg ⟨cs⟩) else
                  match i.zero with
                  |some z=>ld a (M3 z λv=>K [v] v)
                  |none=>no
 |_,_=>no
def EV(P:Program)(t:TypeId)(a:Addr)(v:Value)(K:VK):WK:=
 match P.info? t with
 |some i=>match v with
  | .agg cs=>cu (cs.toList.length=i.size) (jU a cs.toList (K undef))
  |v=>bif ix i.size 1 then st a v (K undef) else no
 |none=>no
def uV(zero:LV):List (Nat×Nat)->Nat->Nat->List (Nat×LV)->Option (LV×Prop)
 |[],at_,_,ps=>bif ix at_ zero.length then(match ps with|[]=>some ([],True)|_=>none) else none
 |(off,n)::fs,at_,i,ps=>bif ix off at_ then
                         (match ps with
                         |[]=>match uV zero fs (at_+n) (i+1) [] with
                          |some (r,p)=>some ((zero.drop off).take n++r,p)
                          |none=>none
                         |(j,cs)::ps'=>bif ix i j then
                            match uV zero fs (at_+n) (i+1) ps' with
                            |some (r,p)=>some (cs++r,cs.length=n/\p)
                            |none=>none
                          else match uV zero fs (at_+n) (i+1) ps with
                           |some (r,p)=>some ((zero.drop off).take n++r,p)
                           |none=>none)
  else none
def xj(P:Program):List Field->Option (List (Nat×Nat))
 |[]=>some []
 |f::fs=>match P.info? f.type,xj P fs with
  |some i,some r=>some ((f.offset,i.size)::r)
  |_,_=>none
def Gf(P:Program)(t:TypeId)(parts:List (Nat×Value))(K:VK):WK:=
 match zeroOf P t,P.underlying t with
 |some (.agg z),some (.struct fs)=>match xj P fs.toList with
  |some pl=>match uV z.toList pl 0 0 (parts.map λp=>(p.1,fA p.2)) with
   |some (cs,p)=>cu p (K (.agg ⟨cs⟩))
   |none=>no
  |none=>no
 |some (.agg z),some (.array n e)=>match P.info? e with
  |some i=>match uV z.toList ((pK n).map λj=>(j* i.size,i.size)) 0 0 (parts.map λp=>(p.1,fA p.2)) with
   |some (cs,p)=>cu p (K (.agg ⟨cs⟩))
   |none=>no
  |none=>no
 |_,_=>no
def AL(P:Program)(t:TypeId)(len:Nat)(parts:List (Nat×Value))(K:VK):WK:=
 match P.underlying t with
 |some (.slice e)=>match P.info? e with
  |some i=>match i.zero with
   |some z=>bif Nat.ble (len* i.size) 16777216&&Nat.blt 0 i.size&&ix (fA z).length i.size then
             match uV (Builtin.zeroCells ⟨fA z⟩ len).toList ((pK len).map λj=>(j* i.size,i.size)) 0 0 (parts.map λp=>(p.1,fA p.2)) with
             |some (cs,p)=>cu p (mk cs λr=>K (.slice (some ⟨r,0,none⟩) len len))
             |none=>no
    else no
   |none=>no
  |none=>no
 |_=>no
def JC(e:Env):List (Nat×Operand)->Option (List (Nat×Value))
 |[]=>some []
 |(i,x)::r=>match ev e x,JC e r with
  |some v,some vs=>some ((i,v)::vs)
  |_,_=>none
def V5(e:Env):Option Operand->Option (Option Int)
 |none=>some none
 |some x=>match ev e x with
  |some (.int _ n)=>some (some n)
  |_=>none
def EW(P:Program)(t:TypeId)(x:Value)(lo hi:Option Int)(K:VK):WK:=
 match P.underlying t,x with
 |some .string,.string s=>mG s lo hi λr=>K (.string r)
 |some (.slice e),.slice b n c=>match P.info? e with
  |some i=>rJ b n c i.size lo hi λb n c=>K (.slice b n c)
  |none=>no
 |some (.array n e),.pointer (some a)=>match P.info? e with
  |some i=>rJ (some a) n n i.size lo hi λb n c=>K (.slice b n c)
  |none=>no
 |_,_=>no
def xv(P:Program)(t:TypeId)(x i:Value)(K:VK):WK:=
 match P.underlying t,x,i with
 |some (.slice e),.slice b n _,.int _ j=>match P.info? e with
  |some i=>iY b n j i.size λa=>K (.pointer (some a))
  |none=>no
 |some (.array n e),.pointer (some a),.int _ j=>match P.info? e with
  |some i=>cu (0<=j/\j<n) (K (.pointer (some (a.add (j.toNat* i.size)))))
  |none=>no
 |_,_,_=>no
def FL(P:Program)(t:TypeId)(x i:Value)(K:VK):WK:=
 match P.underlying t,x,i with
 |some .string,.string s,.int _ j=>zQ s j λc=>K (.int .u8 c.toNat)
 |some (.array n e),.agg cs,.int _ j=>match P.underlying e,P.info? e with
  |some d,some i=>bif tP d then cu (0<=j/\j<n) (K (.agg ⟨(cs.toList.drop (j.toNat* i.size)).take i.size⟩))
   else bif ix i.size 1 then match i.zero with
    |some z=>Dg cs.toList n j (M3 z K)
    |none=>no
   else no
  |_,_=>no
 |_,_,_=>no
def F1(P:Program)(t:TypeId)(x:Value)(f:Nat)(K:VK):WK:=
 match P.underlying t,x with
 |some (.struct fs),.agg cs=>match fs[f]? with
  |some fl=>match P.underlying fl.type,P.info? fl.type with
   |some d,some i=>bif tP d then K (.agg ⟨(cs.toList.drop fl.offset).take i.size⟩)
    else match i.zero with
     |some z=>λw=>∃v,cs.toList[fl.offset]?=some v/\M3 z K v w
     |none=>no
   |_,_=>no
  |none=>no
 |_,_=>no
def xF(P:Program)(t:TypeId)(x:Value)(f:Nat)(K:VK):WK:=
 match P.underlying t,x with
 |some (.struct fs),.pointer (some a)=>match fs[f]? with
  |some fl=>match P.info? fl.type with
   |some i=>bif ix i.size 0 then no else K (.pointer (some (a.add fl.offset)))
   |none=>no
  |none=>no
 |_,_=>no
def NX(P:Program)(t:TypeId)(x:Value)(K:VK):WK:=
 match P.underlying t,x with
 |some .string,.string s=>K (.i s.size)
 |some (.slice _),.slice _ n _=>K (.i n)
 |some (.array n _),_=>K (.i n)
 |_,_=>no
def min2(x y:Int):Int:=if y<x then y else x
def max2(x y:Int):Int:=if y>x then y else x
def qN:Int->LV->Option Int
 |x,[]=>some x
 |x,.int _ y::r=>qN (min2 x y) r
 |_,_=>none
def FD:Int->LV->Option Int
 |x,[]=>some x
 |x,.int _ y::r=>FD (max2 x y) r
 |_,_=>none
def OD(P:Program)(t u:TypeId)(s x:Value)(K:VK):WK:=
 match P.underlying t,s with
 |some (.slice e),.slice b n c=>match P.info? e with
  |some i=>match i.zero with
   |some z=>match P.underlying u,x with
    |some (.slice _),.slice b' m _=>iN i.size i.bytes (fA z) b n c b' m λb n c=>K (.slice b n c)
    |some .string,.string y=>bif ix i.size 1&&ix i.bytes 1 then match z with
                              | .int .u8 0=>Gl b n c y λb n c=>K (.slice b n c)
                              |_=>no
     else no
    |_,_=>no
   |none=>no
  |none=>no
 |_,_=>no
def AK(P:Program)(b:Builtin)(ts:List TypeId)(args:LV)(K:VK):WK:=
 match b,ts,args with
 | .len,t::_,[x]=>NX P t x K
 | .min,_,.int k x::r=>match qN x r with|some m=>K (.int k m)|none=>no
 | .max,_,.int k x::r=>match FD x r with|some m=>K (.int k m)|none=>no
 | .append,[t,u],[s,x]=>OD P t u s x K
 | .copy,t::_,[.slice b n _,.slice b' m _]=>match P.underlying t with
   |some (.slice e)=>match P.info? e with
    |some i=>UJ i.size b n b' m λk=>K (.i k)
    |none=>no
   |_=>no
 | .clear,t::_,[.slice b n _]=>match P.underlying t with
   |some (.slice e)=>match P.info? e with
    |some i=>match i.zero with
     |some z=>Yg (Builtin.zeroCells ⟨fA z⟩ n).toList b n (K (.tuple ⟨[]⟩))
     |none=>no
    |none=>no
   |_=>no
 | .cap,t::_,[.slice _ _ c]=>match P.underlying t with
   |some (.slice _)=>K (.i c)
   |_=>no
 |_,_,_=>no
def BW(P:Program)(T:GH)(e:Env)(c:Call)(ty:TypeId)(K:VK):WK:=
 match RE e c.args.toList with
 |none=>no
 |some args=>match c.callee with
  | .builtin b=>AK P b c.argTypes.toList args K
  | .value f=>match ev e f with
    |some v=>match zeroOf P ty with
     |some z=>wN T v args (xT z K)
     |none=>no
    |none=>no
  | .invoke _ _=>no
def yN(P:Program)(T:GH)(E:Vw)(e:Env)(op:Op)(ty:TypeId)(K:VK):WK:=
 match op with
 | .move x| .assign x=>match ev e x with|some v=>K v|none=>no
 | .pick c x y=>match ev e c with
   |some (.bool b)=>br b (match ev e x with|some v=>K v|none=>no) (match ev e y with|some v=>K v|none=>no)
   |_=>no
 | .alloc t=>match zeroOf P t with
   |some z=>bif Ho P t then mkT t (fA z) λr=>K (Bp r) else mk (fA z) λr=>K (Bp r)
   |none=>no
 | .box _ x=>match ev e x with
   |some v=>mk (fA v) λr=>K (Bp r)
   |none=>no
 | .build t ps=>match JC e ps.toList with
   |some l=>Gf P t l K
   |none=>no
 | .buildSlice t n ps=>match JC e ps.toList with
   |some l=>AL P t n l K
   |none=>no
 | .load t x=>match ev e x with
   |some (.pointer (some a))=>Bz P t a λ_=>K
   |_=>no
 | .store t x y=>match ev e x,ev e y with
   |some (.pointer (some a)),some v=>EV P t a v K
   |_,_=>no
 | .nilCheck x=>match ev e x with
   |some v=>Zk v K
   |none=>no
 | .binOp op t x y _=>match ev e x,ev e y with
   |some a,some b=>Ox P E op t a b K
   |_,_=>no
 | .unOp op _ x=>match ev e x with
   |some a=>SM op a K
   |none=>no
 | .convert s d x=>match ev e x with
   |some a=>Ej P s d a K
   |none=>no
 | .makeFunc fn first cap=>match RE e first.toList,RE e cap.toList with
   |some f,some c=>K (.func fn ⟨f⟩ ⟨c⟩)
   |_,_=>no
 | .makeSlice t n c=>match P.underlying t,ev e n,ev e c with
   |some (.slice el),some (.int _ n),some (.int _ c)=>match P.info? el with
    |some i=>match i.zero with
     |some z=>bif Nat.blt 0 i.size&&ix (fA z).length i.size then Lh i.bytes (fA z) n c λb n c=>K (.slice b n c) else no
     |none=>no
    |none=>no
   |_,_,_=>no
 | .slice t x lo hi none=>match ev e x,V5 e lo,V5 e hi with
   |some v,some l,some h=>EW P t v l h K
   |_,_,_=>no
 | .fieldAddr t x f=>match ev e x with
   |some v=>xF P t v f K
   |none=>no
 | .field t x f=>match ev e x with
   |some v=>F1 P t v f K
   |none=>no
 | .indexAddr t x i=>match ev e x,ev e i with
   |some v,some j=>xv P t v j K
   |_,_=>no
 | .index t x i=>match ev e x,ev e i with
   |some v,some j=>FL P t v j K
   |_,_=>no
 | .extract x i=>match ev e x with
   |some (.tuple vs)=>match vs[i]? with
    |some v=>K v
    |none=>no
   |_=>no
 | .call c=>BW P T e c ty K
 |_=>no
def cover:Env->Nat->Bool
 |C,d=>match lk C d with|none=>true|some _=>false
def pt(n:Nat)(C:Env)(e:Env)(d:Option Tmp)(v:Value)(K:Env->WK):WK:=
 match d with
 |none=>K e
 |some d=>bif Nat.blt d n&&cover C d then K ((d,v)::e) else no
structure Fn where
 P:Program
 T:GH
 E:Vw
 n:Nat
 C:Env
 JR:List (Nat×List (Nat×Value))
def RB(ops:Array Oper)(j:Nat):Option Tmp:=match ops[j]? with|some o=>o.dst|none=>none
def Oz(a b:Bool):Bool:=match a,b with|true,true=>true|false,false=>true|_,_=>false
def Zj(F:Fn)(ops:Array Oper)(o:Oper)(K:Env->WK)(e:Env):WK:=
 match o.guard with
 |none=>yN F.P F.T F.E e o.op o.type λv=>pt F.n F.C e o.dst v K
 |some (j,want)=>match RB ops j with
  |none=>no
  |some d=>match lk e d with
   |some (.bool b)=>
    br b (bif Oz true want then yN F.P F.T F.E ((d,.bool true)::e) o.op o.type λv=>pt F.n F.C ((d,.bool true)::e) o.dst v K else pt F.n F.C ((d,.bool true)::e) o.dst undef K)
     (bif Oz false want then yN F.P F.T F.E ((d,.bool false)::e) o.op o.type λv=>pt F.n F.C ((d,.bool false)::e) o.dst v K else pt F.n F.C ((d,.bool false)::e) o.dst undef K)
   |some (.tuple _)=>pt F.n F.C e o.dst undef K
   |_=>no
def yG(F:Fn)(ops:Array Oper):List Oper->(Env->WK)->Env->WK
 |[],K,e=>K e
 |o::r,K,e=>Zj F ops o (yG F ops r K) e
def cls(P:Program)(op:Op):Nat:=
 match op with
 | .move _| .assign _| .pick _ _ _| .nilCheck _| .binOp .. | .unOp .. | .makeFunc .. | .slice .. | .fieldAddr .. | .field .. | .indexAddr .. | .index .. | .extract .. | .build .. =>0
 | .convert _ d _=>match P.underlying d with|some (.int _)=>0|_=>2
 | .load _ _=>1
 | .call c=>match c.callee with
   | .builtin .len=>0| .builtin .min=>0| .builtin .max=>0
   |_=>2
 |_=>2
abbrev DR:=List (Nat×Addr×LV)
def nj:DR->WK->WK
 |[],K=>K
 |(_,a,cs)::r,K=>λw=>yg w a cs/\nj r K w
def waits(o:Oper)(i:Nat):Bool:=o.after.any λed=>Region.binds .any ed&&ix ed.on i
def kp(a:Addr)(cs:LV)(K:WK):WK:=λw=>yg w a cs/\K w
def both(X Y:WK):WK:=λw=>X w/\Y w
def stays(o:Oper)(S:DR):DR:=S.filter λp=> !waits o p.1
def abV:List Nat->(Nat->WK)->WK
 |[],_=>λ_=>True
 |[i],f=>f i
 |i::r,f=>λw=>f i w/\abV r f w
def quietAt(P:Program)(ops:Array Oper)(i:Nat):Bool:=match ops[i]? with|some o=>Nat.blt (cls P o.op) 2|none=>false
def W0(F:Fn)(e:Env)(i:Nat)(o:Oper)(S:DR)(K:DR->VK):WK:=
 match o.op with
 | .load t x=>match ev e x with
   |some (.pointer (some a))=>Bz F.P t a λcs v=>K ((i,a,cs)::S) v
   |_=>no
 |op=>yN F.P F.T F.E e op o.type (K S)
def guarded(ops:Array Oper)(o:Oper)(e:Env)(run skip:Env->WK):WK:=
 match o.guard with
 |none=>run e
 |some (j,want)=>match RB ops j with
  |none=>no
  |some d=>match lk e d with
   |some (.bool b)=>br b (bif Oz true want then run ((d,.bool true)::e) else skip ((d,.bool true)::e))
                     (bif Oz false want then run ((d,.bool false)::e) else skip ((d,.bool false)::e))
   |some (.tuple _)=>skip e
   |_=>no
def vx(F:Fn)(ops:Array Oper)(K:Env->WK):Nat->Array Bool->DR->Env->WK
 |0,listed,_,e=>match Region.ready .any ops listed with|[]=>K e|_=>no
 |f+1,listed,S,e=>match Region.ready .any ops listed with
  |[]=>K e
  |r::rs=>match(r::rs).find? (quietAt F.P ops) with
   |some i=>match ops[i]? with
    |some o=>bif Region.free .any ops listed i then
              guarded ops o e (λe=>W0 F e i o S λS v=>pt F.n F.C e o.dst v (vx F ops K f (listed.setIfInBounds i true) S))
               (λe=>pt F.n F.C e o.dst undef (vx F ops K f (listed.setIfInBounds i true) S))
     else no
    |none=>no
   |none=>abV (r::rs) λi=>match ops[i]? with
    |some o=>guarded ops o e (λe=>yN F.P F.T F.E e o.op o.type λv=>nj (stays o S) (pt F.n F.C e o.dst v (vx F ops K f (listed.setIfInBounds i true) (stays o S))))
              (λe=>pt F.n F.C e o.dst undef (vx F ops K f (listed.setIfInBounds i true) S))
    |none=>no
def key:Code->Nat
 | .region i _ _=>i
 | .seq a _=>key a
 | .block _ c=>key c
 | .cond _ a _=>key a
 | .loop c=>key c
 | .scope c=>key c
 |_=>0
def Qq:List (Nat×List (Nat×Value))->Nat->Option (List (Nat×Value))
 |[],_=>none
 |(k,l)::r,i=>bif ix k i then some l else Qq r i
def wg(e:Env):List (Nat×Value)->Option (LV)
 |[]=>some []
 |(t,z)::r=>match lk e t with
  |some v=>bif fits z v then(match wg e r with|some vs=>some (v::vs)|none=>none) else none
  |none=>none
def AZ:List (Nat×Value)->LV->Env->Env
 |(t,_)::l,v::vs,C=>(t,v)::AZ l vs C
 |_,_,C=>C
def QK(K:Env->WK)(Q:Exit->Env->WK):Exit->Env->WK
 | .normal,e=>K e
 | .exit i,e=>Q (.exit i) e
 | .goto l,e=>Q (.goto l) e
 | .ret,e=>Q .ret e
 | .panic c,e=>Q (.panic c) e
 | .outgrown,e=>Q .outgrown e
def Ow(i:Nat)(Q:Exit->Env->WK):Exit->Env->WK
 | .exit j,e=>bif ix j i then Q .normal e else Q (.exit j) e
 | .normal,e=>Q .normal e
 | .goto l,e=>Q (.goto l) e
 | .ret,e=>Q .ret e
 | .panic c,e=>Q (.panic c) e
 | .outgrown,e=>Q .outgrown e
def TT(l:List (Nat×Value))(I:LV->World->Prop)(μ:LV->World->Nat)(m:Nat)(e:Env):WK:=
 match wg e l with
 |some vs=>λw=>I vs w/\μ vs w<m
 |none=>no
def den(F:Fn):Code->(Exit->Env->WK)->Env->WK
 | .skip,Q,e=>Q .normal e
 | .ret,Q,e=>Q .ret e
 | .exit i,Q,e=>Q (.exit i) e
 | .seq x y,Q,e=>den F x (QK (den F y Q) Q) e
 | .cond c x y,Q,e=>match ev e c with
   |some (.bool b)=>br b (den F x Q e) (den F y Q e)
   |_=>no
 | .block i c,Q,e=>den F c (Ow i Q) e
 | .loop c,Q,e=>match Qq F.JR (key c) with
   |some l=>match wg e l with
    |some vs=>λw=>∃(I:LV->World->Prop)(μ:LV->World->Nat),I vs w/\
               Gm (l.map (·.2)) λus=>∀w,I us w->den F c (QK (TT l I μ (μ us w)) Q) (AZ l us F.C) w
    |none=>no
   |none=>no
 | .region _ ops draw,Q,e=>bif draw then
                            (bif Region.noSelect ops then tick (vx F ops (Q .normal) ops.size (jH ops.size false) [] e) else no)
   else yG F ops ops.toList (Q .normal) e
 |_,_,_=>no
structure Sub(n:Nat)(e:Env)(a:Act):Prop where
 size:a.tmps.size=n
 defers:a.defers=[]
 get:∀t v,lk e t=some v->a.tmps[t]?=some v
def Sub.eval{n:Nat}{e:Env}{a:Act}(h:Sub n e a){x:Operand}{v:Value}(hx:ev e x=some v):a.eval x=v:=by
 cases x with
 |tmp t=>simp only[ev] at hx;simp[Act.eval,h.get t v hx]
 |const u=>simp only[ev] at hx;cases hx;rfl
 |global g=>simp only[ev] at hx;cases hx;rfl
 |func f=>simp only[ev] at hx;cases hx;rfl
def Sub.ZM{n:Nat}{e:Env}{a:Act}(h:Sub n e a):∀{xs:List Operand} {vs:LV},RE e xs=some vs->xs.map a.eval=vs
 |[],vs,hx=>by simp only[RE] at hx;cases hx;rfl
 |x::xs,vs,hx=>by
  simp only[RE] at hx;cases h1:ev e x with
  |none=>simp[h1] at hx
  |some v=>
   cases h2:RE e xs with
   |none=>simp[h1,h2] at hx
   |some us=>
    simp only[h1,h2,bE.injEq] at hx;subst hx;simp only[dA,h.eval h1,h.ZM h2]
def Sub.JB{n:Nat}{e:Env}{a:Act}(h:Sub n e a){xs:Array Operand}{vs:LV}(hx:RE e xs.toList=some vs):xs.map a.eval=⟨vs⟩:=by
 have:=h.ZM hx;rw[<-Array.toList_map] at this;cases hh:xs.map a.eval
 simp only[hh] at this;subst this
 rfl
def Sub.Od{n:Nat}{e:Env}{a:Act}(h:Sub n e a):∀{xs:List (Nat×Operand)} {vs:List (Nat×Value)},JC e xs=some vs->xs.map (λp=>(p.1,a.eval p.2))=vs
 |[],vs,hx=>by simp only[JC] at hx;cases hx;rfl
 |(i,x)::xs,vs,hx=>by
  simp only[JC] at hx;cases h1:ev e x with
  |none=>simp[h1] at hx
  |some v=>
   cases h2:JC e xs with
   |none=>simp[h1,h2] at hx
   |some us=>
    simp only[h1,h2,bE.injEq] at hx;subst hx;simp only[dA,h.eval h1,h.Od h2]
def xo(e:Env)(d t:Nat)(v:Value):lk ((d,v)::e) t=if d=t then some v else lk e t:=by
 simp only[lk];by_cases h:d=t
 ·subst h;simp
 ·have h':d.beq t=false:=by
   cases hh:d.beq t with
   |true=>exact aQ (eH hh) h
   |false=>rfl
  simp[h,h']
def Sub.put{n:Nat}{e:Env}{a:Act}(h:Sub n e a){d:Nat}(hd:d<n)(v:Value):Sub n ((d,v)::e) (a.put (some d) v):=by
 refine⟨by simp[Act.put,h.size],by simp[Act.put,h.defers],λt u ht=>?_⟩;rw[xo] at ht;simp only[Act.put];split at ht
 ·rename_i hdt;subst hdt;cases ht
  rw[Array.getElem?_setIfInBounds_self];simp[h.size,hd]
 ·rename_i hdt;rw[Array.getElem?_setIfInBounds_ne hdt];exact h.get t u ht
def Sub.again{n:Nat}{e:Env}{a:Act}(h:Sub n e a){d:Nat}{v:Value}(hd:lk e d=some v):Sub n ((d,v)::e) a:=by
 refine⟨h.size,h.defers,λt u ht=>?_⟩;rw[xo] at ht;split at ht
 ·rename_i hdt;subst hdt;cases ht;exact h.get _ _ hd
 ·exact h.get t u ht
def To(P:Program)(s:Sem Next)(w:World)(K:VK):Prop:=
 (∃v w',s.run P w=.ok (.value v) w'/\K v w')\/(∃w',s.run P w=.ok .skip w'/\K undef w')\/
 (∃g args w',s.run P w=.ok (.enter g args) w'/\Calls P g args w' λe w''=>∃v,e=.returned v/\K v w'')
def Pure(P:Program)(s:Sem Next)(w:World)(K:VK):Prop:=∃v,(∀w',s.run P w'=.ok (.value v) w')/\K v w
def Pure.toX{P:Program}{s:Sem Next}{w:World}{K:VK}(h:Pure P s w K):To P s w K:=
 let⟨v,hr,hk⟩:=h;.inl ⟨v,w,hr w,hk⟩
def PV(P:Program)(s:Sem Value)(w:World)(K:VK):Prop:=∃v,(∀w',s.run P w'=.ok v w')/\K v w
def PV.pure{P:Program}{s:Sem Value}{w:World}{K:VK}(h:PV P s w K):Pure P (do pure (.value (<-s))) w K:=by
 obtain⟨v,hr,hk⟩:=h;exact⟨v,λw'=>by simp[hr w'],hk⟩
section
variable {P:Program} {K:VK} {w:World}
def gH{t:TypeId}{d:TypeDesc}(h:P.underlying t=some d)(w:World):(underlying t).run P w=.ok d w:=by simp[underlying,h]
def Cz{op:BinOp}{k:IntKind}{x y:Int}{t:TypeId}(h:FK op k x y K w):PV P (binOp op t (.int k x) (.int k y)) w K:=by
 cases op<;>simp only[FK,cu] at h<;>first
  |exact⟨_,λw'=>by simp[binOp,Op.intArith,Op.intBits,Op.intCmp,de];done,h⟩
  |(obtain⟨h1,h2⟩:=h
    refine⟨_,λw'=>?_,h2⟩
    simp only[binOp,Op.intDiv,Op.shift,shl,shr,ne_eq,not_true,if_false]
    rw[af (by omega)]
    rfl)
def QF{op:BinOp}{x y:BA}{t:TypeId}(h:Nj op x y K w):PV P (binOp op t (.string x) (.string y)) w K:=by
 cases op<;>simp only[Nj,cu,no] at h
 case add=>
  refine⟨_,λw'=>?_,h.2⟩;have h1: ¬(((x.size+y.size:Nat):Int)>aa.max):=by
   have:=h.1;have e:aa.max=9223372036854775807:=by decide
   rw[e];omega
  simp only[binOp,Op.stringOp];rw[af h1]
  rfl
 case eql=>exact⟨_,λw'=>rfl,h⟩
 case neq=>exact⟨_,λw'=>rfl,h⟩
def Oe{op:BinOp}{t:TypeId}{x y:Operand}{a b:Value}(hn:(a=.nilIface->False))(hg:∀xs ys,a=.agg xs->b=.agg ys->P.eqGuardType P.depth t=false)(w:World):
 (eqGuard op t x y a b).run P w=.ok () w:=by
 cases op<;>try rfl
 all_goals
  cases a<;>cases b<;>first
   |rfl
   |exact(hn rfl).elim
   |(rename_i xs ys
     have:=hg _ _ rfl rfl
     simp[eqGuard,this])
def Nr{t d:TypeId}(h:P.underlying t=some (.pointer d))(p:OA)(w:World):(Op.equal t (.pointer p) (.pointer none)).run P w=.ok p.isNone w:=by
 show(Op.equalIn (9999+1) t _ _).run P w=_;unfold Op.equalIn;cases p<;>simp[underlying,h]
def QO{t d:TypeId}(h:P.underlying t=some (.slice d))(p:OA)(n c m e:Nat)(w:World):(Op.equal t (.slice p n c) (.slice none m e)).run P w=.ok p.isNone w:=by
 show(Op.equalIn (9999+1) t _ _).run P w=_;unfold Op.equalIn;cases p<;>simp[underlying,h]
def KO{t:TypeId}(h:P.underlying t=some .bool)(a b:Bool)(w:World):(Op.equal t (.bool a) (.bool b)).run P w=.ok (a==b) w:=by
 show(Op.equalIn (9999+1) t _ _).run P w=_;unfold Op.equalIn;simp[underlying,h]
def sg(P:Program)(E:Vw):Prop:=∀t zs,Ij E t=some zs->P.eqGuardType P.depth t=false/\
 ∀xs ys,o0 zs xs=true->o0 zs ys=true->∀w:World,(Op.equal t (.agg ⟨xs⟩) (.agg ⟨ys⟩)).run P w=.ok (jf xs ys) w
def RY{E:Vw}(hE:sg P E){op:BinOp}{t:TypeId}{x y:Operand}{a b:Value}(h:Ox P E op t a b K w):PV P (do eqGuard op t x y a b;binOp op t a b) w K:=by
 have main:(a=.nilIface->False)->(∀xs ys,a=.agg xs->b=.agg ys->P.eqGuardType P.depth t=false)->PV P (binOp op t a b) w K->PV P (do eqGuard op t x y a b;binOp op t a b) w K:=by
  intro h1 h2 ⟨v,hv,hk⟩;refine⟨v,λw'=>?_,hk⟩;rw[Sem.run_bind,Oe h1 h2];exact hv w'
 unfold Ox at h;split at h
 ·apply main (by simp) (by simp);split at h
  ·exact Cz (t:=t) h
  ·exact Cz (t:=t) h
  ·rename_i k a k' b op' _ _;by_cases hk:k=k'
   ·subst hk;simp only[decide_true,cond_true] at h;exact Cz h
   ·simp[hk,no] at h
 ·exact main (by simp) (by simp) (QF h)
 ·apply main (by simp) (by simp);cases hu:P.underlying t with
  |none=>simp only[hu,no] at h
  |some d=>
   cases d<;>cases op<;>simp only[hu,no] at h<;>exact⟨_,λw'=>by simp[binOp,KO hu],h⟩
 ·apply main (by simp) (by simp);cases hu:P.underlying t with
  |none=>simp only[hu,no] at h
  |some d=>
   cases d<;>cases op<;>simp only[hu,no] at h<;>exact⟨_,λw'=>by simp[binOp,Nr hu],h⟩
 ·apply main (by simp) (by simp);cases hu:P.underlying t with
  |none=>simp only[hu,no] at h
  |some d=>
   cases d<;>cases op<;>simp only[hu,no] at h<;>exact⟨_,λw'=>by simp[binOp,QO hu],h⟩
 ·rename_i xs ys;cases he:Ij E t with
  |none=>simp only[he,no] at h
  |some zs=>
   obtain⟨hg,heq⟩:=hE t zs he;cases op<;>simp only[he,no] at h<;>(
    obtain⟨⟨h1,h2⟩,hk⟩:=h
    refine main (by simp) (λ_ _ _ _=>hg) ⟨_,λw'=>?_,hk⟩
    have hr:=heq _ _ h1 h2 w'
    rw[show ∀z:Array Value,(⟨z.toList⟩:Array Value)=z from λz=>rfl,show ∀z:Array Value,(⟨z.toList⟩:Array Value)=z from λz=>rfl] at hr
    simp only[binOp,Sem.run_bind]
    rw[hr];rfl)
 ·exact h.elim
def SK{op:UnOp}{a:Value}(h:SM op a K w):PV P (Op.unary op a) w K:=by
 unfold SM at h;split at h
 ·exact⟨_,λw'=>rfl,h⟩
 ·exact⟨_,λw'=>rfl,h⟩
 ·exact⟨_,λw'=>rfl,h⟩
 ·exact h.elim
def run_convert_int{s d:TypeId}{sd:TypeDesc}{k:IntKind}(hs:P.underlying s=some sd)(hd:P.underlying d=some (.int k))(j:IntKind)(n:Int)(w:World):
 (convert s d (.int j n)).run P w=.ok (.int k (k.wrap n)) w:=by
 simp[convert,underlying,hs,hd,Conv.intToInt]
def run_sliceBound{x:Int}{y:Nat}{code:BoundsCode}(h:0<=x/\x<=y)(k:IntKind)(w:World):(Instr.sliceBound (.int k x) y code).run P w=.ok x.toNat w:=by
 simp[Instr.sliceBound,asIntOf,h.1,h.2]
end
section
variable {P:Program} {K:VK} {w:World}
def BI(v:Option Value)(n:Option Int):Prop:=match v,n with
 |none,none=>True
 |some v,some n=>∃k,v=.int k n
 |_,_=>False
def Sub.V5{n:Nat}{e:Env}{a:Act}(h:Sub n e a){x:Option Operand}{r:Option Int}(hx:V5 e x=some r):BI (x.map a.eval) r:=by
 cases x with
 |none=>simp only[Den.V5,bE.injEq] at hx;subst hx;trivial
 |some x=>
  simp only[Den.V5] at hx;cases h1:ev e x with
  |none=>simp[h1] at hx
  |some v=>
   cases v<;>simp[h1] at hx
   subst hx;exact⟨_,by rw[h.eval h1]⟩
def bOk(len cap:Nat)(l h:Option Int):Prop:=match h with
 |none=>(match l with|none=>True|some l=>0<=l/\l<=len)
 |some h=>(0<=h/\h<=cap)/\(match l with|none=>True|some l=>0<=l/\l<=h)
def bL(l:Option Int):Nat:=match l with|none=>0|some l=>l.toNat
def bH(h:Option Int)(len:Nat):Nat:=match h with|none=>len|some h=>h.toNat
def Aj(sl:Bool){len cap:Nat}{lo hi:Option Value}{l h:Option Int}(B5:BI lo l)(AW:BI hi h)
 (ok:bOk len cap l h)(w:World):
 (Instr.sliceBounds sl len cap lo hi none).run P w=.ok (bL l,bH h len,cap) w:=by
 unfold bOk at ok;cases h with
 |none=>
  cases hi with
  |some v=>exact AW.elim
  |none=>
   cases l with
   |none=>
    cases lo with
    |some v=>exact B5.elim
    |none=>simp[Instr.sliceBounds,bL,bH]
   |some l=>
    cases lo with
    |none=>exact B5.elim
    |some v=>
     obtain⟨k,rfl⟩:=B5;simp only at ok;simp[Instr.sliceBounds,bL,bH,run_sliceBound ok]
 |some h=>
  cases hi with
  |none=>exact AW.elim
  |some v=>
   obtain⟨k,rfl⟩:=AW;simp only at ok;obtain⟨ok1,ok2⟩:=ok;cases l with
   |none=>
    cases lo with
    |some v=>exact B5.elim
    |none=>simp[Instr.sliceBounds,bL,bH,run_sliceBound ok1]
   |some l=>
    cases lo with
    |none=>exact B5.elim
    |some v=>
     obtain⟨k,rfl⟩:=B5;have ok3:0<=l/\l<=(h.toNat:Nat):=⟨ok2.1,by have:=ok2.2;omega⟩;simp[Instr.sliceBounds,bL,bH,run_sliceBound ok1,run_sliceBound ok3]
def QJ{s:BA}{l h:Option Int}{K:BA->WK}(hh:mG s l h K w):
 bOk s.size s.size l h/\K (s.extract (bL l) (bH h s.size)) w:=by
 unfold bOk bL bH;unfold mG cu at hh;cases h<;>cases l<;>simp only at hh⊢
 ·exact⟨trivial,hh⟩
 ·exact hh
 ·exact⟨⟨hh.1,trivial⟩,hh.2⟩
 ·exact⟨⟨hh.1,hh.2.1⟩,hh.2.2⟩
def KD{b:OA}{len cap size:Nat}{l h:Option Int}{K:OA->Nat->Nat->WK}(hh:rJ b len cap size l h K w):
 bOk len cap l h/\K (ym b cap (bL l) size) (bH h len-bL l) (cap-bL l) w:=by
 unfold bOk bL bH;unfold rJ cu at hh;cases h<;>cases l<;>simp only at hh⊢
 ·exact⟨trivial,hh⟩
 ·exact hh
 ·exact⟨⟨hh.1,trivial⟩,hh.2⟩
 ·exact⟨⟨hh.1,hh.2.1⟩,hh.2.2⟩
def run_sizeOf{t:TypeId}{i:TypeInfo}(h:P.info? t=some i)(w:World):(sizeOf t).run P w=.ok i.size w:=by simp[sizeOf,typeInfo,h]
def KC{t:TypeId}{x:Value}{lo hi:Option Value}{l h:Option Int}(B5:BI lo l)(AW:BI hi h)(hh:EW P t x l h K w):
 PV P (Instr.sliceAt t x lo hi none) w K:=by
 unfold EW at hh;generalize hu:P.underlying t=u at hh;split at hh
 ·rename_i s;obtain⟨h1,h2⟩:=QJ hh;refine⟨_,λw'=>?_,h2⟩;simp[Instr.sliceAt,Instr.slice,underlying,hu,Aj false B5 AW h1]
 ·rename_i e b n c;cases u9:P.info? e with
  |none=>simp only[u9,no] at hh
  |some i=>
   simp only[u9] at hh;obtain⟨h1,h2⟩:=KD hh;refine⟨_,λw'=>?_,h2⟩;simp only[Instr.sliceAt,Instr.slice,Sem.run_bind,gH hu,Result.andThen_ok,Aj true B5 AW h1,run_sizeOf u9,Sem.run_pure,ym]
 ·rename_i n e a;cases u9:P.info? e with
  |none=>simp only[u9,no] at hh
  |some i=>
   simp only[u9] at hh;obtain⟨h1,h2⟩:=KD hh;refine⟨_,λw'=>?_,h2⟩;simp only[Instr.sliceAt,Sem.run_bind,gH hu,Result.andThen_ok,Instr.sureAddr,Sem.run_pure,Aj false B5 AW h1,run_sizeOf u9,ym];split<;>rfl
 ·exact hh.elim
def tX{z v:Value}{K:VK}(h:M3 z K v w):K v w:=by
 unfold M3 at h;split at h
 ·obtain⟨n,rfl,h⟩:=h;exact h
 ·obtain⟨n,rfl,h⟩:=h;exact h
 ·obtain⟨n,rfl,h⟩:=h;exact h
 ·obtain⟨n,rfl,h⟩:=h;exact h
 ·obtain⟨b,n,c,rfl,h⟩:=h;exact h
 ·obtain⟨cs,rfl,_,h⟩:=h;exact h
 ·exact h
def Sw{z v:Value}{K:VK}(h:xT z K v w):K v w:=by
 unfold xT at h;split at h
 ·rename_i zs;generalize hz:zs.toList=l at h;split at h
  ·obtain⟨rfl,h⟩:=h;exact h
  ·obtain⟨a,b,rfl,h⟩:=h;have h1:=tX (K:=λa=>M3 _ (λb=>K (Value.tuple ⟨[a,b]⟩)) b) h;exact tX (K:=λb=>K (Value.tuple ⟨[a,b]⟩)) h1
  ·obtain⟨a,b,c,rfl,h⟩:=h;have h1:=tX (K:=λa=>M3 _ (λb=>M3 _ (λc=>K (Value.tuple ⟨[a,b,c]⟩)) c) b) h;have h2:=tX (K:=λb=>M3 _ (λc=>K (Value.tuple ⟨[a,b,c]⟩)) c) h1;exact tX (K:=λc=>K (Value.tuple ⟨[a,b,c]⟩)) h2
  ·exact h.elim
 ·exact tX h
def DL{t:TypeId}{x i:Value}(hh:xv P t x i K w):PV P (Instr.indexAt t x i) w K:=by
 unfold xv at hh;generalize hu:P.underlying t=u at hh;split at hh
 ·rename_i e b n c k j;cases u9:P.info? e with
  |none=>simp only[u9,no] at hh
  |some i=>
   simp only[u9] at hh;obtain⟨a,rfl,hb,hk⟩:=hh;refine⟨_,λw'=>?_,hk⟩;simp[Instr.indexAt,asIntOf,hb.1,hb.2,Sem.run_bind,underlying,hu,sizeOf,typeInfo,u9]
 ·rename_i n e a k j;cases u9:P.info? e with
  |none=>simp only[u9,no] at hh
  |some i=>
   simp only[u9] at hh;obtain⟨hb,hk⟩:=hh;refine⟨_,λw'=>?_,hk⟩;simp[Instr.indexAt,asIntOf,hb.1,hb.2,Sem.run_bind,underlying,hu,sizeOf,typeInfo,u9,Instr.sureAddr]
 ·exact hh.elim
def xu{t:TypeId}{d:TypeDesc}(h:P.underlying t=some d)(w:World):(isAgg t).run P w=.ok (tP d) w:=by
 simp only[isAgg,Sem.run_bind,gH h,Result.andThen_ok,tP];split<;>simp_all
def Bf{t:TypeId}{d:TypeDesc}{i:TypeInfo}(h:P.underlying t=some d)(hi:P.info? t=some i)(ha:tP d=true)(cs:Array Value)(off:Nat)(w:World):
 (part t cs off).run P w=.ok (.agg ⟨(cs.toList.drop off).take i.size⟩) w:=by
 simp only[part,Sem.run_bind,xu h,Result.andThen_ok,ha,if_true,run_sizeOf hi,Sem.run_pure]
 congr 3
 apply uF;simp[List.take_drop]
def Be{t:TypeId}{d:TypeDesc}(h:P.underlying t=some d)(ha:tP d=false){cs:Array Value}{off:Nat}{v:Value}(hv:cs.toList[off]?=some v)(w:World):
 (part t cs off).run P w=.ok v w:=by
 have Dh:cs[off]?=some v:=by simpa using hv
 simp[part,xu h,ha,Dh]
def Q4(s:BA)(n:Nat):s[n]?=s.data.toList[n]?:=by
 by_cases h:n<s.size
 ·rw[getElem?_pos s n h];have h2:n<s.data.toList.length:=by simpa using h
  rw[aj h2];simp[ByteArray.getElem_eq_getElem_data]
 ·rw[getElem?_neg s n h];rw[pU];simp only[Array.length_toList];have:s.data.size=s.size:=rfl;omega
def Ls{t:TypeId}{x i:Value}(hh:FL P t x i K w):PV P (Instr.index t x i) w K:=by
 unfold FL at hh;generalize hu:P.underlying t=u at hh;split at hh
 ·rename_i s k j;obtain⟨c,⟨h0,hc⟩,hk⟩:=hh;refine⟨_,λw'=>?_,hk⟩;have LO:s[j.toNat]?=some c:=by rw[Q4];exact hc
  simp[Instr.index,asIntOf,underlying,hu,h0,LO]
 ·rename_i n e cs k j;cases hd:P.underlying e with
  |none=>simp only[hd,no] at hh
  |some d=>
   cases u9:P.info? e with
   |none=>simp only[hd,u9,no] at hh
   |some i=>
    simp only[hd,u9] at hh;cases ha:tP d with
    |true=>
     simp only[ha,cond_true] at hh;obtain⟨hb,hk⟩:=hh;refine⟨_,λw'=>?_,hk⟩;simp[Instr.index,asIntOf,gH hu,hb.1,hb.2,run_sizeOf u9,Bf hd u9 ha]
    |false=>
     simp only[ha,cond_false] at hh;cases hs:ix i.size 1 with
     |false=>simp[hs,no] at hh
     |true=>
      have fC:i.size=1:=eH hs;simp only[hs,cond_true] at hh;cases hz:i.zero with
      |none=>simp only[hz,no] at hh
      |some z=>
       simp only[hz] at hh;obtain⟨v,⟨h0,h1,hv⟩,hk⟩:=hh;refine⟨v,λw'=>?_,tX hk⟩;simp[Instr.index,asIntOf,gH hu,h0,h1,run_sizeOf u9,fC,Be hd ha hv]
 ·exact hh.elim
def LW{t:TypeId}{x:Value}{f:Nat}(hh:F1 P t x f K w):PV P (Instr.field t x f) w K:=by
 unfold F1 at hh;generalize hu:P.underlying t=u at hh;split at hh
 ·rename_i fs cs;cases hf:fs[f]? with
  |none=>simp only[hf,no] at hh
  |some fl=>
   simp only[hf] at hh;cases hd:P.underlying fl.type with
   |none=>simp only[hd,no] at hh
   |some d=>
    cases u9:P.info? fl.type with
    |none=>simp only[hd,u9,no] at hh
    |some i=>
     simp only[hd,u9] at hh;cases ha:tP d with
     |true=>
      simp only[ha,cond_true] at hh;refine⟨_,λw'=>?_,hh⟩;simp[Instr.field,gH hu,hf,asAgg,Bf hd u9 ha]
     |false=>
      simp only[ha,cond_false] at hh;cases hz:i.zero with
      |none=>simp only[hz,no] at hh
      |some z=>
       simp only[hz] at hh;obtain⟨v,hv,hk⟩:=hh;refine⟨v,λw'=>?_,tX hk⟩;simp[Instr.field,gH hu,hf,asAgg,Be hd ha hv]
 ·exact hh.elim
def DO{t:TypeId}{x:Value}{f:Nat}(hh:xF P t x f K w):PV P (Instr.fieldAt t x f) w K:=by
 unfold xF at hh;generalize hu:P.underlying t=u at hh;split at hh
 ·rename_i fs a;cases hf:fs[f]? with
  |none=>simp only[hf,no] at hh
  |some fl=>
   simp only[hf] at hh;cases u9:P.info? fl.type with
   |none=>simp only[u9,no] at hh
   |some i=>
    simp only[u9] at hh;cases hs:ix i.size 0 with
    |true=>simp[hs,no] at hh
    |false=>
     have fC:i.size≠0:=λh=>by simp[h] at hs
     simp only[hs,cond_false] at hh;refine⟨_,λw'=>?_,hh⟩;simp[Instr.fieldAt,gH hu,hf,Instr.sureAddr,fieldPlace,run_sizeOf u9,fC]
 ·exact hh.elim
def HQ{t ty:TypeId}{ts:Array TypeId}{x:Value}(ht:ts.toList=[t]\/∃r,ts.toList=t::r)(hh:NX P t x K w):PV P (Builtin.len_ ts ty #[x]) w K:=by
 have h0:ts[0]?=some t:=by
  cases ts
  rcases ht with h|⟨r,h⟩<;>simp only at h<;>subst h<;>rfl
 unfold NX at hh;generalize hu:P.underlying t=u at hh;split at hh
 ·exact⟨_,λw'=>by simp[Builtin.len_,h0,gH hu,goInt],hh⟩
 ·exact⟨_,λw'=>by simp[Builtin.len_,h0,gH hu,goInt],hh⟩
 ·exact⟨_,λw'=>by simp[Builtin.len_,h0,gH hu,goInt],hh⟩
 ·exact hh.elim
def Cw{k:IntKind}:∀{x:Int} {l:LV} {m:Int},qN x l=some m->∀w:World,(l.foldlM Builtin.min2 (.int k x)).run P w=.ok (.int k m) w
 |x,[],m,h,w=>by simp only[qN,bE.injEq] at h;subst h;rfl
 |x,.int j y::r,m,h,w=>by
  simp only[qN] at h;have:=Cw (k:=k) h w;simp only[List.foldlM_cons,Sem.run_bind,Builtin.min2,Sem.run_pure,Result.andThen_ok];exact this
 |x,.bool _::_,m,h,w=>by simp[qN] at h
 |x,.float _ _::_,m,h,w=>by simp[qN] at h
 |x,.complex _ _ _::_,m,h,w=>by simp[qN] at h
 |x,.string _::_,m,h,w=>by simp[qN] at h
 |x,.pointer _::_,m,h,w=>by simp[qN] at h
 |x,.slice _ _ _::_,m,h,w=>by simp[qN] at h
 |x,.map _::_,m,h,w=>by simp[qN] at h
 |x,.chan _::_,m,h,w=>by simp[qN] at h
 |x,.func _ _ _::_,m,h,w=>by simp[qN] at h
 |x,.nilFunc::_,m,h,w=>by simp[qN] at h
 |x,.iface _ _::_,m,h,w=>by simp[qN] at h
 |x,.nilIface::_,m,h,w=>by simp[qN] at h
 |x,.agg _::_,m,h,w=>by simp[qN] at h
 |x,.tuple _::_,m,h,w=>by simp[qN] at h
def HN{k:IntKind}:∀{l:LV} {x:Int} {m:Int},FD x l=some m->∀w:World,(l.foldlM Builtin.max2 (.int k x)).run P w=.ok (.int k m) w:=by
 intro l
 induction l with
 |nil=>intro x m h w;simp only[FD,bE.injEq] at h;subst h;rfl
 |cons v r ih=>
  intro x m h w;cases v<;>simp only[FD,reduceCtorEq] at h
  rename_i j y;simp only[List.foldlM_cons,Sem.run_bind,Builtin.max2,Sem.run_pure,Result.andThen_ok];exact ih h w
end
section
variable {P:Program} {K:VK} {w:World}
def kY(v:Value):v.cells.toList=fA v:=by cases v<;>rfl
def Ig:∀(cs:LV)(A B C:LV)(k off:Nat),A.length=off+k->B.length=cs.length->
 (cs.zipIdx k).foldl (λ(z:Array Value)(p:Value×Nat)=>z.setIfInBounds (off+p.2) p.1) ⟨A++B++C⟩=⟨A++cs++C⟩
 |[],A,B,C,k,off,h1,h2=>by
  have:B=[]:=List.eq_nil_of_length_eq_zero h2;subst this;rfl
 |c::cs,A,B,C,k,off,h1,h2=>by
  cases B with
  |nil=>simp at h2
  |cons b B=>
   simp only[List.zipIdx_cons,List.foldl_cons];have e:(⟨A++(b::B)++C⟩:Array Value).setIfInBounds (off+k) c=⟨(A++[c])++B++C⟩:=by
    apply uF;rw[Array.toList_setIfInBounds];simp only[aH,lH,cT];rw[<-h1,List.set_append];simp
   rw[e,Ig cs (A++[c]) B C (k+1) off (by simp;omega) (by simpa using h2)];simp
def RD(A B C:LV)(v:Value)(off:Nat)(h1:A.length=off)(h2:B.length=(fA v).length):
 v.cells.zipIdx.foldl (λ(z:Array Value)(p:Value×Nat)=>z.setIfInBounds (off+p.2) p.1) ⟨A++B++C⟩=⟨A++fA v++C⟩:=by
 rw[<-Array.foldl_toList,Array.toList_zipIdx,kY];exact Ig (fA v) A B C 0 off (by omega) h2
def wM(PL:List (Nat×Nat))(place:Nat->Option (Nat×Nat))(hp:∀j x,PL[j]?=some x->place j=some x)(zero:LV):
 ∀(fs:List (Nat×Nat))(at_ i:Nat)(done:LV)(ps:List (Nat×Value))(r:LV)(p:Prop),fs=PL.drop i->done.length=at_->at_<=zero.length->
  uV zero fs at_ i (ps.map λq=>(q.1,fA q.2))=some (r,p)->p->
  Instr.fill place ⟨done++zero.drop at_⟩ ps=some ⟨done++r⟩
 |[],at_,i,done,ps,r,p,BH,hd,hz,h,T6=>by
  simp only[uV] at h;cases hb:ix at_ zero.length with
  |false=>simp[hb] at h
  |true=>
   simp only[hb,cond_true] at h;have he:=eH hb;cases ps with
   |nil=>
    simp only[uk,bE.injEq,Prod.mk.injEq] at h;obtain⟨rfl,_⟩:=h;simp[Instr.fill,he]
   |cons q ps=>simp at h
 |(off,n)::fs,at_,i,done,ps,r,p,BH,hd,hz,h,T6=>by
  simp only[uV] at h;have hPL:PL[i]?=some (off,n):=by
   have:(PL.drop i)[0]?=some (off,n):=by rw[<-BH];rfl
   simpa using this
  have adv:fs=PL.drop (i+1):=by
   have:(PL.drop i).tail=fs:=by rw[<-BH];rfl
   rw[<-this,List.tail_drop]
  cases hb:ix off at_ with
  |false=>simp[hb] at h
  |true=>
   simp only[hb,cond_true] at h;have he:=eH hb;subst he;have skip:∀r',uV zero fs (off+n) (i+1) (ps.map λq=>(q.1,fA q.2))=some (r',p)->r=(zero.drop off).take n++r'->off+n<=zero.length->Instr.fill place ⟨done++zero.drop off⟩ ps=some ⟨done++r⟩:=by
    intro r' h' hr hle;have:=wM PL place hp zero fs (off+n) (i+1) (done++(zero.drop off).take n) ps r' p adv (by simp;omega) hle h' T6;rw[aH,aH] at this;rw[<-hr] at this;rw[<-this]
    congr 3
    rw[<-iL,dk]
   have bound:∀(fs:List (Nat×Nat))(a i:Nat)(qs:List (Nat×LV))(x:LV×Prop),uV zero fs a i qs=some x->a<=zero.length:=by
    intro fs
    induction fs with
    |nil=>
     intro a i qs x hx;simp only[uV] at hx;cases hb:ix a zero.length with
     |false=>simp[hb] at hx
     |true=>exact Nat.le_of_eq (eH hb)
    |cons f fs ih=>
     intro a i qs x hx;obtain⟨o,m⟩:=f;simp only[uV] at hx;cases hb:ix o a with
     |false=>simp[hb] at hx
     |true=>
      simp only[hb,cond_true] at hx;have key:∀qs',(∃y,uV zero fs (a+m) (i+1) qs'=some y)->a<=zero.length:=λqs' ⟨y,hy⟩=>by have:=ih _ _ _ _ hy;omega
      cases qs with
      |nil=>
       cases hc:uV zero fs (a+m) (i+1) [] with
       |none=>simp[hc] at hx
       |some y=>exact key _ ⟨y,hc⟩
      |cons q qs=>
       obtain⟨j,cs⟩:=q;cases hj:ix i j with
       |true=>
        simp only[hj,cond_true] at hx;cases hc:uV zero fs (a+m) (i+1) qs with
        |none=>simp[hc] at hx
        |some y=>exact key _ ⟨y,hc⟩
       |false=>
        simp only[hj,cond_false] at hx;cases hc:uV zero fs (a+m) (i+1) ((j,cs)::qs) with
        |none=>simp[hc] at hx
        |some y=>exact key _ ⟨y,hc⟩
   cases ps with
   |nil=>
    simp only[uk] at h skip;cases hc:uV zero fs (off+n) (i+1) [] with
    |none=>simp[hc] at h
    |some y=>
     obtain⟨r',p'⟩:=y;simp only[hc,bE.injEq,Prod.mk.injEq] at h;obtain⟨h1,h2⟩:=h;subst h2;exact skip r' hc h1.symm (bound _ _ _ _ _ hc)
   |cons q ps=>
    obtain⟨j,v⟩:=q;simp only[dA] at h skip;cases hj:ix i j with
    |true=>
     simp only[hj,cond_true] at h;have MS:=eH hj;subst MS;cases hc:uV zero fs (off+n) (i+1) (ps.map λq=>(q.1,fA q.2)) with
     |none=>simp[hc] at h
     |some y=>
      obtain⟨r',p'⟩:=y;simp only[hc,bE.injEq,Prod.mk.injEq] at h;obtain⟨h1,h2⟩:=h;subst h2;obtain⟨hlen,hp'⟩:=T6;have hle:=bound _ _ _ _ _ hc;have:=wM PL place hp zero fs (off+n) (i+1) (done++fA v) ps r' p' adv (by simp;omega) hle hc hp';rw[aH,aH,h1] at this;simp only[Instr.fill,hp i _ hPL];have qX:v.cells.size=n:=by rw[<-hlen,<-kY];simp
      have MO: ¬((decide (v.cells.size≠n)||decide (off+v.cells.size>(⟨done++zero.drop off⟩:Array Value).size))=true):=by
       simp[qX];omega
      rw[af MO];have e:(⟨done++zero.drop off⟩:Array Value)=⟨done++(zero.drop off).take n++zero.drop (off+n)⟩:=by
       rw[aH,<-iL,dk]
      rw[e,RD done ((zero.drop off).take n) (zero.drop (off+n)) v off hd (by simp[hlen];omega)];rw[<-this,aH]
    |false=>
     simp only[hj,cond_false] at h;cases hc:uV zero fs (off+n) (i+1) ((j,fA v)::ps.map λq=>(q.1,fA q.2)) with
     |none=>simp[hc] at h
     |some y=>
      obtain⟨r',p'⟩:=y;simp only[hc,bE.injEq,Prod.mk.injEq] at h;obtain⟨h1,h2⟩:=h;subst h2;exact skip r' hc h1.symm (bound _ _ _ _ _ hc)
end
section
variable {P:Program} {K:VK} {w:World}
def Fq(f:Field):Sem (Nat×Nat):=do pure (f.offset,<-sizeOf f.type)
def Bq:∀{fs:List Field} {pl:List (Nat×Nat)},xj P fs=some pl->∀w,(fs.mapM Fq).run P w=.ok pl w
 |[],pl,h,w=>by simp only[xj,bE.injEq] at h;subst h;rfl
 |f::fs,pl,h,w=>by
  simp only[xj] at h;cases hi:P.info? f.type with
  |none=>simp[hi] at h
  |some i=>
   cases hr:xj P fs with
   |none=>simp[hi,hr] at h
   |some r=>
    simp only[hi,hr,bE.injEq] at h;subst h;have h1:(Fq f).run P w=.ok (f.offset,i.size) w:=by simp[Fq,run_sizeOf hi]
    rw[List.mapM_cons,Sem.run_bind,h1,Result.andThen_ok,Sem.run_bind,Bq hr w];rfl
def xe{t:TypeId}{z:Value}(h:zeroOf P t=some z)(w:World):(zeroValue t).run P w=.ok z w:=by
 unfold zeroOf at h;cases hi:P.info? t with
 |none=>simp[hi] at h
 |some i=>
  simp only[hi] at h;simp[zeroValue,typeInfo,hi,h]
def Mm{t:TypeId}{ps:List (Nat×Value)}(hh:Gf P t ps K w):PV P (Instr.build t ⟨ps⟩) w K:=by
 unfold Gf at hh;generalize hz:zeroOf P t=z at hh;generalize hu:P.underlying t=u at hh;split at hh
 ·rename_i z fs;cases hp:xj P fs.toList with
  |none=>simp only[hp,no] at hh
  |some pl=>
   simp only[hp] at hh;cases hc:uV z.toList pl 0 0 (ps.map λp=>(p.1,fA p.2)) with
   |none=>simp only[hc,no] at hh
   |some y=>
    obtain⟨cs,p⟩:=y;simp only[hc] at hh;obtain⟨T6,hk⟩:=hh;refine⟨_,λw'=>?_,hk⟩;have hm:(fs.mapM Fq).run P w'=.ok ⟨pl⟩ w':=by
     rw[<-Array.toArray_toList (xs:=fs),List.mapM_toArray,Sem.run_map,Bq hp w'];rfl
    have hf:=wM pl ((⟨pl⟩:Array (Nat×Nat))[·]?) (λj x hx=>by simpa using hx) z.toList pl 0 0 [] ps cs p rfl rfl (aE _) hc T6;simp only[cT,iK] at hf;simp only[Instr.build,Sem.run_bind,xe hz,Result.andThen_ok,gH hu,Value.cells];rw[show(fs.mapM λf=>(do let a<-sizeOf f.type;pure (f.offset,a):Sem (Nat×Nat)))=fs.mapM Fq from rfl,hm];simp only[Result.andThen_ok];rw[hf];rfl
 ·rename_i z n e;cases hi:P.info? e with
  |none=>simp only[hi,no] at hh
  |some i=>
   simp only[hi] at hh;cases hc:uV z.toList ((pK n).map λj=>(j* i.size,i.size)) 0 0 (ps.map λp=>(p.1,fA p.2)) with
   |none=>simp only[hc,no] at hh
   |some y=>
    obtain⟨cs,p⟩:=y;simp only[hc] at hh;obtain⟨T6,hk⟩:=hh;refine⟨_,λw'=>?_,hk⟩;have hf:=wM ((pK n).map λj=>(j* i.size,i.size)) (λj=>some (j* i.size,i.size)) (λj x hx=>by
     rw[dU] at hx
     cases hr:(pK n)[j]? with
     |none=>simp[hr] at hx
     |some m=>
      have:m=j:=by
       rw[q8] at hr
       ·exact(bE.inj hr).symm
       ·have:=(av.1 hr).1;simpa using this
      subst this;simpa [hr] using hx) z.toList _ 0 0 [] ps cs p rfl rfl (aE _) hc T6
    simp only[cT,iK] at hf;simp only[Instr.build,Sem.run_bind,xe hz,Result.andThen_ok,gH hu,Value.cells,run_sizeOf hi];rw[hf];rfl
 ·exact hh.elim
def xn{t:TypeId}{a:Addr}{K:LV->VK}(hh:Bz P t a K w):
 ∃v cs,yg w a cs/\(∀w',yg w' a cs->(loadVar t a).run P w'=.ok v w')/\K cs v w:=by
 unfold Bz at hh;cases hu:P.underlying t with
 |none=>simp only[hu,no] at hh
 |some d=>
  cases hi:P.info? t with
  |none=>simp only[hu,hi,no] at hh
  |some i=>
   simp only[hu,hi] at hh;cases ha:tP d with
   |true=>
    simp only[ha,cond_true] at hh;obtain⟨cs,hl,hH,hk⟩:=hh;refine⟨_,cs,hH,λw' hH'=>?_,hk⟩;simp only[loadVar,Sem.run_bind,xu hu,Result.andThen_ok,ha,if_true,run_sizeOf hi];rw[<-hl,run_loadCells_list w' a cs hH'];rfl
   |false=>
    simp only[ha,cond_false] at hh;cases hz:i.zero with
    |none=>simp only[hz,no] at hh
    |some z=>
     simp only[hz] at hh;obtain⟨v,hc,hk⟩:=hh;have a0:a.add 0=a:=by simp[Addr.add]
     refine⟨v,[v],λj u hj=>?_,λw' hH'=>?_,tX (K:=λv=>K [v] v) hk⟩
     ·cases j with
      |zero=>simp only[Hb,bE.injEq] at hj;subst hj;rw[a0];exact hc
      |succ j=>simp at hj
     ·have:=hH' 0 v rfl;rw[a0] at this;simp only[loadVar,Sem.run_bind,xu hu,Result.andThen_ok,ha,cG,if_false,run_load,this]
def UP{a b:Addr}{v:Value}(h:∃o,w.cell? b=some o):∃o,(w.setCell a v).cell? b=some o:=by
 obtain⟨o,h⟩:=h;by_cases V2:a=b
 ·subst V2;exact⟨v,World.cell?_setCell_same w a v h⟩
 ·exact⟨o,by rw[World.cell?_setCell_other w a b v V2];exact h⟩
def xU.tail{a:Addr}{i:Nat}{v:Value}{cs:LV}(h:xU w a i (v::cs)):xU (w.setCell (a.add i) v) a (i+1) cs:=by
 refine⟨λu hu=>h.1 u (fJ _ hu),λj hj=>?_⟩;have:=h.2 (j+1) (by simp;omega);rw[show i+1+j=i+(j+1) from by omega];exact⟨UP this.1,by rw[World.frozen?_setCell];exact this.2⟩
def wi:∀(cs:LV)(a:Addr)(i:Nat)(w:World),xU w a i cs->(storeCells a cs i).run P w=.ok () (Af w a i cs)
 |[],a,i,w,h=>rfl
 |v::cs,a,i,w,h=>by
  have h0:=h.2 0 (by simp);obtain⟨⟨o,ho⟩,hf⟩:=h0;simp only[gK] at ho hf;simp only[storeCells,Sem.run_bind,run_store P w (a.add i) v .plain (h.1 v (by simp)),ho,hf,Af];exact wi cs a (i+1) _ h.tail
def GM{t:TypeId}{a:Addr}{v:Value}(hh:EV P t a v K w):∃w',(storeVar t a v).run P w=.ok () w'/\K undef w':=by
 unfold EV at hh;cases hi:P.info? t with
 |none=>simp only[hi,no] at hh
 |some i=>
  simp only[hi] at hh;have one:v.cells.toList=[v]->(bif ix i.size 1 then st a v (K undef) else no) w->∃w',(storeVar t a v).run P w=.ok () w'/\K undef w':=by
   intro hv hh;cases hs:ix i.size 1 with
   |false=>simp[hs,no] at hh
   |true=>
    have fC:i.size=1:=eH hs;simp only[hs,cond_true] at hh;obtain⟨h1,⟨o,ho⟩,hf,hk⟩:=hh;have a0:a.add 0=a:=by simp[Addr.add]
    refine⟨_,?_,hk⟩;have qX:v.cells.size=1:=by rw[<-Array.length_toList,hv];rfl
    simp only[storeVar,Sem.run_bind,run_sizeOf hi,Result.andThen_ok,fC,qX,ne_eq,not_true,if_false,hv];have:=wi (P:=P) [v] a 0 w ⟨λu hu=>by simp at hu;subst hu;exact h1,λj hj=>by simp at hj;subst hj;simp only[gK,a0];exact⟨⟨o,ho⟩,hf⟩⟩;simp only[Af,a0] at this;exact this
  split at hh
  ·rename_i cs;obtain⟨hl,hc,hk⟩:=hh;refine⟨_,?_,hk⟩;have MQ:cs.size=i.size:=by simpa using hl
   simp only[storeVar,Sem.run_bind,run_sizeOf hi,Result.andThen_ok,Value.cells,MQ,ne_eq,not_true,if_false];exact wi _ _ _ _ hc
  ·rename_i hv;refine one ?_ hh;cases v<;>first|rfl|exact aQ rfl (hv _)
end
section
variable {P:Program} {K:VK} {w:World}
def SV(P:Program)(s:Sem Value)(w:World)(K:VK):Prop:=∃v w',s.run P w=.ok v w'/\K v w'
def SV.toX{s:Sem Value}(h:SV P s w K):To P (do pure (.value (<-s))) w K:=by
 obtain⟨v,w',hr,hk⟩:=h;exact .inl ⟨v,w',by simp[hr],hk⟩
def PV.sv{s:Sem Value}(h:PV P s w K):SV P s w K:=let⟨v,hr,hk⟩:=h;⟨v,w,hr w,hk⟩
def acY{cs:LV}{t:TypeId}(h:mk cs (λr=>K (Bp r)) w)(v:Value)(hv:fA v=cs):SV P (Instr.box t v) w K:=by
 refine⟨_,_,?_,h t⟩;have:v.cells=⟨cs⟩:=by rw[<-hv,<-kY]
 simp[Instr.box,newVar,newRow,this,Bp]
def U5{t:TypeId}{z:Value}(hz:zeroOf P t=some z)(h:mk (fA z) (λr=>K (Bp r)) w):SV P (Instr.alloc t true (.tuple #[])) w K:=by
 refine⟨_,_,?_,h t⟩;have:z.cells=⟨fA z⟩:=by rw[<-kY]
 simp[Instr.alloc,xe hz,newVar,newRow,this,Bp]
def R6{t:TypeId}{z:Value}(hz:zeroOf P t=some z)(h:mkT t (fA z) (λr=>K (Bp r)) w):SV P (Instr.alloc t true (.tuple #[])) w K:=by
 refine⟨_,_,?_,h⟩;have:z.cells=⟨fA z⟩:=by rw[<-kY]
 simp[Instr.alloc,xe hz,newVar,newRow,this,Bp]
def uK{n size len cap:Nat}{b:OA}{cs:LV}(h:Src w n size b cs)(hb:b=none->n=0):
 (Builtin.firstCells size n (.slice b len cap)).run P w=.ok ⟨cs⟩ w:=by
 cases b with
 |none=>
  have h0:=hb rfl;subst h0;have hl:=h.1;simp at hl;subst hl;exact run_firstCells_none (P:=P) w size 0 len cap
 |some a=>exact run_firstCells_some (P:=P) w size n a len cap cs h.1 (h.2 a rfl)
def Ai{s:BA}(size:Nat):(Builtin.firstCells size s.size (.string s)).run P w=.ok ⟨strCells s⟩ w:=by
 have e:s.extract 0 s.size=s:=by simp
 simp only[Builtin.firstCells,e,Sem.run_pure,strCells]
 congr 1
 apply uF;simp
def JJ{acU old:Nat}{el:TypeId}(t:Nat):acU<=(Question.appendCap acU old el).cut t:=by
 simp only[Question.cut];omega
def Mt{size bytes:Nat}{z:Value}{b:OA}{len cap n:Nat}{new:LV}{K:OA->Nat->Nat->WK}{t u ty e:TypeId}{i:TypeInfo}{du:TypeDesc}{x:Value}
 (h:Yu size bytes (fA z) b len cap n new K w)(ht:P.underlying t=some (.slice e))(hu:P.underlying u=some du)(hdu:∀k,du≠.int k)(hi:P.info? e=some i)(hs:i.size=size)(Qa:i.bytes=bytes)(hz:i.zero=some z)
 (hlen:(Builtin.lenOf x).run P w=.ok n w)(yT:∀w',(∀a,w'.cell? a=w.cell? a)->(Builtin.firstCells size n x).run P w'=.ok ⟨new⟩ w'):
 ∃b' n' c' w',(Builtin.append_ #[t,u] ty #[.slice b len cap,x]).run P w=.ok (.slice b' n' c') w'/\K b' n' c' w':=by
 subst hs Qa;have hz':z.cells=⟨fA z⟩:=by rw[<-kY]
 have hnz:(match du with| .int _=>true|_=>false)=false:=by cases du<;>first|rfl|exact aQ rfl (hdu _)
 by_cases hle:len+n<=cap
 ·obtain⟨h1,h2⟩:=h.1 hle;cases b with
  |none=>
   refine⟨_,_,_,_,?_,h2 rfl⟩;simp only[Builtin.append_,List.getElem?_toArray,Hb,bT,Sem.run_bind,gH ht,gH hu,run_sizeOf hi,Result.andThen_ok,Sem.run_pure,cG,if_false,hlen,OQ,if_true,hle,yT w (λ_=>rfl)]
  |some a=>
   obtain⟨hc,hk⟩:=h1 a rfl;refine⟨_,_,_,_,?_,hk⟩;simp only[Builtin.append_,List.getElem?_toArray,Hb,bT,Sem.run_bind,gH ht,gH hu,run_sizeOf hi,Result.andThen_ok,Sem.run_pure,cG,if_false,hlen,OQ,if_true,hle,yT w (λ_=>rfl),wi _ _ _ _ hc]
 ·have cj:cap<len+n:=by omega
  obtain⟨V1,wE,old,Ax,hn,hk⟩:=h.2 cj;have AB:=growslice_fits (old:=cap) (bytes:=i.bytes) cj V1;have hm: ¬(((len+n:Nat):Int)>aa.max/\(False\/i.bytes=0)):=by
   have e:aa.max=9223372036854775807:=by decide
   rw[e];omega
  refine⟨_,_,_,_,?_,hk _ e (JJ (old:=cap) (el:=e) (w.tape w.drawn (.appendCap (len+n) cap e)))⟩;have XH:∀(l c:Nat),(Builtin.firstCells i.size len (.slice b l c)).run P w.drew=.ok ⟨old⟩ w.drew:=λl c=>
   uK (w:=w.drew) ⟨Ax.1,λa ha=>Ax.2 a ha⟩ hn
  have Ef:=yT w.drew (λ_=>rfl);have h48: ¬(Builtin.nextslicecap (len+n) cap* i.bytes>2^48):=by omega
  simp only[Builtin.append_,List.getElem?_toArray,Hb,bT,Sem.run_bind,gH ht,gH hu,run_sizeOf hi,Result.andThen_ok,Sem.run_pure,cG,if_false,hlen,OQ,if_true,hle,
   typeInfo,run_program,hi,h48,hm,zeroValue,hz,run_choose,Question.forced,run_askRoom,World.drew_eq,XH,Ef,newRow,run_newObj,World.alloc_eq,hz',Sem.run_ite,run_mark]
  have e2:(⟨old⟩++⟨new⟩:Array Value)=(old++new).toArray:=by simp
  rw[e2];rfl
def R1{t u ty:TypeId}{s x:Value}(hh:OD P t u s x K w):SV P (Builtin.append_ #[t,u] ty #[s,x]) w K:=by
 unfold OD at hh;generalize ht:P.underlying t=dt at hh;split at hh
 case h_2=>exact hh.elim
 rename_i e b n c;cases hi:P.info? e with
 |none=>simp only[hi,no] at hh
 |some i=>
  simp only[hi] at hh;cases hz:i.zero with
  |none=>simp only[hz,no] at hh
  |some z=>
   simp only[hz] at hh;generalize hu:P.underlying u=du at hh;split at hh
   ·rename_i e' b' m c';obtain⟨new,Ax,hn,afI⟩:=hh;obtain⟨b1,n1,c1,w1,hr,hk⟩:=Mt (P:=P) (ty:=ty) (x:=.slice b' m c') afI ht hu (λk=>by simp) hi rfl rfl hz rfl (λw' Si=>uK (w:=w') ⟨Ax.1,λa ha j v hj=>by rw[Si];exact Ax.2 a ha j v hj⟩ hn);exact⟨_,_,hr,hk⟩
   ·rename_i y;cases hs:(ix i.size 1&&ix i.bytes 1) with
    |false=>simp only[hs,cond_false,no] at hh
    |true=>
     simp only[hs,cond_true] at hh;simp only[dh] at hs;have h1:=eH hs.1;have h2:=eH hs.2;split at hh
     ·obtain⟨b1,n1,c1,w1,hr,hk⟩:=Mt (P:=P) (ty:=ty) (x:=.string y) (z:=.int .u8 0) hh ht hu (λk=>by simp) hi h1 h2 hz rfl (λw' _=>Ai (w:=w') i.size);exact⟨_,_,hr,hk⟩
     ·exact hh.elim
   ·exact hh.elim
def abS{p:OA}{n c:Nat}{K:BA->WK}(h:U2 p n K w):∃s,(Conv.bytesToString (.slice p n c)).run P w=.ok (.string s) w/\K s w:=by
 cases p with
 |none=>exact⟨_,rfl,h.1 rfl⟩
 |some a=>
  obtain⟨cs,hl,hH,hb,hk⟩:=h.2 a rfl;refine⟨_,?_,hk⟩;subst hl;have key:∀(l:LV),(∀v∈l,∃m,v=.int .u8 m)->∃ns:List Int,l=ns.map (.int .u8)/\bytesOf l=ns.map λn=>UInt8.ofNat n.toNat:=by
   intro l
   induction l with
   |nil=>intro _;exact⟨[],rfl,rfl⟩
   |cons v l ih=>
    intro hv;obtain⟨m,rfl⟩:=hv v (by simp);obtain⟨ns,h1,h2⟩:=ih λv Dh=>hv v (by simp[Dh]);exact⟨m::ns,by rw[h1];rfl,by simp only[dA,<-h2];rfl⟩
  have fold:∀(ns:List Int)(s:BA),ns.foldl (λr n=>r.push (UInt8.ofNat n.toNat)) s=⟨s.data++(ns.map λn=>UInt8.ofNat n.toNat).toArray⟩:=by
   intro ns
   induction ns with
   |nil=>intro s;simp
   |cons n ns ih=>
    intro s;rw[List.foldl_cons,ih]
    congr 1
    apply uF;simp[ByteArray.push]
  obtain⟨ns,h1,h2⟩:=key cs hb;have nu:=run_loadCells_list (P:=P) w a cs hH;have:=run_bytesToString (P:=P) w a cs.length c ns (by rw[nu,h1]);rw[this,fold,h2];simp[ByteArray.empty,ByteArray.emptyWithCapacity]
  rfl
def aaA{e:TypeId}{s:BA}{K:Nat->Nat->WK}(h:s2b s K w):∃r c w',(Conv.stringToBytes e s).run P w=.ok (.slice (some ⟨r,0,none⟩) s.size c) w'/\K r c w':=by
 refine⟨_,_,_,?_,h _ e (JJ (old:=0) (el:=e) (w.tape w.drawn (.appendCap s.size 0 e)))⟩;have Jt:(choose (.appendCap s.size 0 e)).run P w=.ok ((Question.appendCap s.size 0 e).cut (w.tape w.drawn (.appendCap s.size 0 e))) w.drew:=rfl;simp only[Conv.stringToBytes,Sem.run_bind,Jt,Result.andThen_ok,newRow,run_newObj,World.alloc_eq,Sem.run_pure,markStringish,run_shape];have e1:(s.data.map λb=>Value.int .u8 b.toNat)=(strCells s).toArray:=by
  apply uF;simp[strCells]
 rw[e1];generalize hc:(Question.appendCap s.size 0 e).cut (w.tape w.drawn (Question.appendCap s.size 0 e))=c;have hle:s.size<=c:=by rw[<-hc];exact JJ (old:=0) (el:=e) _
 have qX:((strCells s).toArray++jH (c-s.size) (Value.int .u8 0)).size=c:=by
  have:s.data.size=s.size:=rfl;simp[strCells];omega
 have hsh:(w.drew.alloc (.cells ((strCells s).toArray++jH (c-s.size) (.int .u8 0)) e)).shape? w.drew.heap.size=some (e,c):=by
  simp only[World.shape?,World.alloc,Array.getElem?_push_size,qX]
 rw[hsh]
 rfl
def Ey(z:Array Value)(n:Nat):madeCells z (n* z.size)=Builtin.zeroCells z n:=rfl
def Xg{t e:TypeId}{i:TypeInfo}{z:Value}{kl kc:IntKind}{l c:Int}(ht:P.underlying t=some (.slice e))(hi:P.info? e=some i)(hz:i.zero=some z)(hs:(fA z).length=i.size)
 (h:Lh i.bytes (fA z) l c (λb n c=>K (.slice b n c)) w):SV P (Instr.makeSlice t (.int kl l) (.int kc c)) w K:=by
 obtain⟨⟨h0,h1,h2,h3⟩,hk⟩:=h;refine⟨_,_,?_,hk e⟩;rw[run_make w t e i z ht hi hz kl kc l c h0 h1 (by rw[Int.mul_comm];exact h3) h2];have qX:z.cells.size=i.size:=by rw[<-hs,<-kY];simp
 rw[<-qX,Ey];have:z.cells=⟨fA z⟩:=by rw[<-kY]
 rw[this]
def Ye{t ty e:TypeId}{i:TypeInfo}{z7:Array TypeId}{b b':OA}{n c m c':Nat}(h0:z7[0]?=some t)(ht:P.underlying t=some (.slice e))(hi:P.info? e=some i)
 (h:UJ i.size b n b' m (λk=>K (.i k)) w):SV P (Builtin.copy_ z7 ty #[.slice b n c,.slice b' m c']) w K:=by
 obtain⟨new,Ax,hn,h1,h2⟩:=h;have hf:=uK (P:=P) (len:=m) (cap:=c') Ax hn;cases b with
 |none=>
  refine⟨_,w,?_,h1 rfl⟩;simp only[Builtin.copy_,h0,List.getElem?_toArray,Hb,bT,Sem.run_bind,gH ht,run_sizeOf hi,Result.andThen_ok,Sem.run_pure,Builtin.lenOf];rw[show Nat.min m n=min m n from rfl,hf]
  rfl
 |some a=>
  obtain⟨hc,hk⟩:=h2 a rfl;refine⟨_,_,?_,hk⟩;simp only[Builtin.copy_,h0,List.getElem?_toArray,Hb,bT,Sem.run_bind,gH ht,run_sizeOf hi,Result.andThen_ok,Sem.run_pure,Builtin.lenOf];rw[show Nat.min m n=min m n from rfl,hf];simp only[Result.andThen_ok,wi _ _ _ _ hc,Sem.run_pure]
  rfl
def Yf{t ty e:TypeId}{i:TypeInfo}{z:Value}{z7:Array TypeId}{b:OA}{n c:Nat}(h0:z7[0]?=some t)(ht:P.underlying t=some (.slice e))(hi:P.info? e=some i)(hz:i.zero=some z)
 (h:Yg (Builtin.zeroCells ⟨fA z⟩ n).toList b n (K (.tuple ⟨[]⟩)) w):SV P (Builtin.clear_ z7 ty #[.slice b n c]) w K:=by
 obtain⟨h1,h2⟩:=h;have hz':z.cells=⟨fA z⟩:=by rw[<-kY]
 cases b with
 |none=>
  refine⟨_,w,?_,h1 (.inl rfl)⟩;simp[Builtin.clear_,h0,gH ht]
 |some a=>
  cases n with
  |zero=>
   refine⟨_,w,?_,h1 (.inr rfl)⟩;simp[Builtin.clear_,h0,gH ht]
  |succ n=>
   obtain⟨hc,hk⟩:=h2 a rfl (by omega);refine⟨_,_,?_,hk⟩;simp only[Builtin.clear_,h0,List.getElem?_toArray,Hb,Sem.run_bind,gH ht,Result.andThen_ok,zeroValue,typeInfo,run_program,hi,hz,Sem.run_pure,hz',wi _ _ _ _ hc]
end
section
variable {P:Program} {K:VK} {w:World} {T:GH} {n:Nat} {e:Env} {a:Act}
def aG(P:Program)(g:Nat)(p:WP):Prop:=
 (∃fn,P.funcs[g]?=some fn/\(fn.name== "runtime.NumGoroutine")=false/\fn.body.isNone=false)/\
 ∀args K w,p args K w->Calls P g ⟨args⟩ w λe w'=>∃v,e=.returned v/\K v w'
def YB(P:Program)(g:Nat)(p:WP):Prop:=∀args K w,p args K w->∃v w',(callFunc g ⟨args⟩).run P w=.ok (.value v) w'/\K v w'
def oo(P:Program):GH->Prop
 |[]=>True
 |(g,p)::r=>(aG P g p\/YB P g p)/\oo P r
def Mj:∀{T:GH},oo P T->∀{g:Nat} {args:LV} {K:VK} {w:World},Mk T g args K w->
 ((∃fn,P.funcs[g]?=some fn/\(fn.name== "runtime.NumGoroutine")=false/\fn.body.isNone=false)/\Calls P g ⟨args⟩ w λe w'=>∃v,e=.returned v/\K v w')\/
 ∃v w',(callFunc g ⟨args⟩).run P w=.ok (.value v) w'/\K v w'
 |[],_,_,_,_,_,h=>h.elim
 |(f,p)::r,hT,g,args,K,w,h=>by
  simp only[Mk] at h;cases hb:ix f g with
  |true=>
   have:=eH hb;subst this;simp only[hb,cond_true] at h;rcases hT.1 with he|he
   ·exact .inl ⟨he.1,he.2 _ _ _ h⟩
   ·exact .inr (he _ _ _ h)
  |false=>
   simp only[hb,cond_false] at h;exact Mj hT.2 h
def Bg{g:Nat}{args:Array Value}{fn:Func}(h:P.funcs[g]?=some fn)(h1:(fn.name== "runtime.NumGoroutine")=false)(h2:fn.body.isNone=false)(w:World):
 (callFunc g args).run P w=.ok (.enter g args) w:=by
 simp only[callFunc,Sem.run_bind,run_program,Result.andThen_ok,h,h1,h2,cG,if_false,Sem.run_pure]
def Oq(hT:oo P T)(hs:Sub n e a){c:Call}{ty:TypeId}(h:BW P T e c ty K w):To P (do let d<-resolve a.eval c ty;invoke d.target d.args) w K:=by
 obtain⟨callee,args,z7⟩:=c;unfold BW at h;cases BK:RE e args.toList with
 |none=>simp only[BK,no] at h
 |some vs=>
  simp only[BK] at h;have LF:=hs.JB BK;cases callee with
  |invoke r m=>simp only[no] at h
  |value f=>
   cases hf:ev e f with
   |none=>simp only[hf,no] at h
   |some fv=>
    have hfe:=hs.eval hf;simp only[hf] at h;cases hz:zeroOf P ty with
    |none=>simp only[hz,no] at h
    |some z=>
     simp only[hz] at h;cases fv<;>first|exact False.elim h|skip
     rename_i fnv first cap
     cases fnv<;>first|exact False.elim h|skip
     rename_i g
     replace h:Mk T g (first.toList++vs++cap.toList) (xT z K) w:=h
     have Ui:(first++(⟨vs⟩:Array Value)++cap:Array Value)=⟨first.toList++vs++cap.toList⟩:=by
      apply uF;simp
     rcases Mj hT h with⟨⟨fn,h1,h2,h3⟩,hc⟩|⟨v,w',hr,hk⟩
     ·refine .inr (.inr ⟨g,⟨first.toList++vs++cap.toList⟩,w,?_,hc.mono λe w' ⟨v,he,hk⟩=>⟨v,he,Sw hk⟩⟩);simp only[resolve,hfe,LF,Deferred.ofValue,invoke,Sem.run_bind,Sem.run_pure,Result.andThen_ok];rw[Ui,Bg h1 h2 h3]
     ·refine .inl ⟨v,w',?_,Sw hk⟩;simp only[resolve,hfe,LF,Deferred.ofValue,invoke,Sem.run_bind,Sem.run_pure,Result.andThen_ok];rw[Ui,hr]
  |builtin b=>
   simp only at h;have base:∀s:Sem Value,(∀cs,builtin b z7 ty cs ⟨vs⟩=(do pure (.value (<-s))))->SV P s w K->To P (do let d<-resolve a.eval ⟨.builtin b,args,z7⟩ ty;invoke d.target d.args) w K:=by
    intro s hbs hsv;have:=SV.toX hsv;have e1:(do let d<-resolve a.eval ⟨.builtin b,args,z7⟩ ty;invoke d.target d.args:Sem Next)=(do pure (.value (<-s))):=by
     rw[<-hbs (args.map λ| .const _=>true|_=>false)];simp only[resolve,LF,invoke]
     rfl
    rw[e1];exact this
   unfold AK at h;generalize N0:z7.toList=ts at h;split at h
   ·rename_i t r x;refine base (Builtin.len_ z7 ty #[x]) (λcs=>rfl) (PV.sv (HQ (t:=t) (.inr ⟨r,N0⟩) h))
   ·rename_i k x r;cases hm:qN x r with
    |none=>simp only[hm,no] at h
    |some m=>
     simp only[hm] at h;exact base (Builtin.min_ z7 ty ⟨.int k x::r⟩) (λcs=>rfl) ⟨_,w,Cw hm w,h⟩
   ·rename_i k x r;cases hm:FD x r with
    |none=>simp only[hm,no] at h
    |some m=>
     simp only[hm] at h;exact base (Builtin.max_ z7 ty ⟨.int k x::r⟩) (λcs=>rfl) ⟨_,w,HN hm w,h⟩
   ·rename_i t u s x;have afF:z7=#[t,u]:=by cases z7;simp only at N0;subst N0;rfl
    subst afF;exact base (Builtin.append_ #[t,u] ty #[s,x]) (λcs=>rfl) (R1 h)
   ·rename_i t r b1 m1 c1 b2 m2 c2;have h0:z7[0]?=some t:=by cases z7;simp only at N0;subst N0;rfl
    generalize ht:P.underlying t=d at h;split at h
    ·rename_i el;cases hi:P.info? el with
     |none=>simp only[hi,no] at h
     |some i=>
      simp only[hi] at h;exact base (Builtin.copy_ z7 ty #[.slice b1 m1 c1,.slice b2 m2 c2]) (λcs=>rfl) (Ye h0 ht hi h)
    ·exact h.elim
   ·rename_i t r b1 m1 c1;have h0:z7[0]?=some t:=by cases z7;simp only at N0;subst N0;rfl
    generalize ht:P.underlying t=d at h;split at h
    ·rename_i el;cases hi:P.info? el with
     |none=>simp only[hi,no] at h
     |some i=>
      simp only[hi] at h;cases hz:i.zero with
      |none=>simp only[hz,no] at h
      |some z=>
       simp only[hz] at h;exact base (Builtin.clear_ z7 ty #[.slice b1 m1 c1]) (λcs=>rfl) (Yf h0 ht hi hz h)
    ·exact h.elim
   ·rename_i t r b1 m1 c1;have h0:z7[0]?=some t:=by cases z7;simp only at N0;subst N0;rfl
    generalize ht:P.underlying t=d at h;split at h
    ·exact base (Builtin.cap_ z7 ty #[.slice b1 m1 c1]) (λcs=>rfl) ⟨_,w,by simp[Builtin.cap_,h0,gH ht,goInt],h⟩
    ·exact h.elim
   ·exact h.elim
def Ol{s d:TypeId}{x:Value}(h:Ej P s d x K w):SV P (convert s d x) w K:=by
 unfold Ej at h;cases hs:P.underlying s with
 |none=>simp only[hs,no] at h
 |some sd=>
  simp only[hs] at h;generalize hd:P.underlying d=dd at h;split at h
  ·exact⟨_,_,run_convert_int hs hd _ _ w,h⟩
  ·exact⟨_,_,by cases sd<;>simp[convert,gH hs,gH hd],h⟩
  ·rename_i el b;generalize he:P.underlying el=ed at h;split at h
   ·obtain⟨r,c,w',hr,hk⟩:=aaA (P:=P) (e:=el) h;refine⟨_,w',?_,hk⟩;cases sd<;>simp[convert,gH hs,gH hd,gH he,hr]
   ·exact h.elim
  ·rename_i p m c;cases sd<;>simp only[no] at h
   rename_i el;generalize he:P.underlying el=ed at h;split at h
   ·obtain⟨r,hr,hk⟩:=abS (P:=P) (c:=c) h;refine⟨_,w,?_,hk⟩;simp[convert,gH hs,gH hd,gH he,hr]
   ·exact h.elim
  ·exact h.elim
def G8{t:TypeId}{m:Nat}{ps:List (Nat×Value)}(hh:AL P t m ps K w):SV P (Instr.buildSlice t m ⟨ps⟩) w K:=by
 unfold AL at hh;cases hu:P.underlying t with
 |none=>simp only[hu,no] at hh
 |some d=>
  cases d<;>simp only[hu,no] at hh
  rename_i el;cases hi:P.info? el with
  |none=>simp only[hi,no] at hh
  |some i=>
   simp only[hi] at hh;cases hz:i.zero with
   |none=>simp only[hz,no] at hh
   |some z=>
    simp only[hz] at hh;cases hb:(Nat.ble (m* i.size) 16777216&&Nat.blt 0 i.size&&ix (fA z).length i.size) with
    |false=>simp only[hb,cond_false,no] at hh
    |true=>
     simp only[hb,cond_true] at hh;simp only[dh] at hb;obtain⟨⟨V1,wE⟩,hb3⟩:=hb;have h1:m* i.size<=16777216:=aI V1;have h3:=eH hb3;cases hc:uV (Builtin.zeroCells ⟨fA z⟩ m).toList ((pK m).map λj=>(j* i.size,i.size)) 0 0 (ps.map λp=>(p.1,fA p.2)) with
     |none=>simp only[hc,no] at hh
     |some y=>
      obtain⟨cs,p⟩:=y;simp only[hc] at hh;obtain⟨T6,hk⟩:=hh;have hf:=wM ((pK m).map λj=>(j* i.size,i.size)) (λj=>some (j* i.size,i.size)) (λj x hx=>by
       rw[dU] at hx
       cases hr:(pK m)[j]? with
       |none=>simp[hr] at hx
       |some q=>
        have:q=j:=by
         rw[q8] at hr
         ·exact(bE.inj hr).symm
         ·have:=(av.1 hr).1;simpa using this
        subst this;simpa [hr] using hx) _ _ 0 0 [] ps cs p rfl rfl (aE _) hc T6
      simp only[cT,iK] at hf;have qX:z.cells=⟨fA z⟩:=by rw[<-kY]
      have hzz:(⟨fA z⟩:Array Value).size=i.size:=h3;have afa:((Array.range (m* i.size)).map λx=>(⟨fA z⟩:Array Value)[x%(⟨fA z⟩:Array Value).size]!)=Builtin.zeroCells ⟨fA z⟩ m:=by
       rw[<-hzz];rfl
      refine⟨_,_,?_,hk el⟩;simp only[Instr.buildSlice,Sem.run_bind,gH hu,Result.andThen_ok,run_sizeOf hi];have hn: ¬(m* i.size>2^24):=by omega
      simp only[hn,if_false];by_cases h0:m* i.size=0
      ·have hm:m=0:=by
        rcases Nat.mul_eq_zero.1 h0 with h|h
        ·exact h
        ·rw[h] at wE;simp at wE
       subst hm;have hzc:Builtin.zeroCells ⟨fA z⟩ 0=#[]:=by simp[Builtin.zeroCells]
       rw[hzc] at hf;have T3:∀f:Nat->Value,(Array.range (0* i.size)).map f=#[]:=λf=>by rw[Nat.zero_mul];simp
       simp only[h0,if_true];simp only[Nat.zero_mul] at T3;rw[show ∀z:Array Value,(⟨z.toList⟩:Array Value)=z from λz=>rfl] at hf;simp only[Sem.run_bind,Sem.run_pure,Result.andThen_ok,T3];rw[hf]
       rfl
      ·simp only[h0,if_false,Sem.run_bind,zeroValue,typeInfo,run_program,hi,hz,Result.andThen_ok,Sem.run_pure,qX,afa];rw[show ∀z:Array Value,(⟨z.toList⟩:Array Value)=z from λz=>rfl] at hf;rw[hf]
       rfl
end
section
variable {P:Program} {K:VK} {w:World} {T:GH} {E:Vw} {n:Nat} {e:Env} {a:Act}
def Pure.of_eq{s:Sem Next}(v:Value)(h:s=pure (.value v))(hk:K v w):Pure P s w K:=⟨v,λw'=>by rw[h];rfl,hk⟩
def JP(hs:Sub n e a){c:Call}{ty:TypeId}(hc:cls P (.call c)=0)(h:BW P T e c ty K w):Pure P (do let d<-resolve a.eval c ty;invoke d.target d.args) w K:=by
 obtain⟨callee,args,z7⟩:=c;unfold BW at h;cases BK:RE e args.toList with
 |none=>simp only[BK,no] at h
 |some vs=>
  simp only[BK] at h;have LF:=hs.JB BK;cases callee with
  |invoke r m=>simp only[no] at h
  |value f=>simp[cls] at hc
  |builtin b=>
   simp only at h;have base:∀s:Sem Value,(∀cs,builtin b z7 ty cs ⟨vs⟩=(do pure (.value (<-s))))->PV P s w K->Pure P (do let d<-resolve a.eval ⟨.builtin b,args,z7⟩ ty;invoke d.target d.args) w K:=by
    intro s hbs hsv;have:=PV.pure hsv;have e1:(do let d<-resolve a.eval ⟨.builtin b,args,z7⟩ ty;invoke d.target d.args:Sem Next)=(do pure (.value (<-s))):=by
     rw[<-hbs (args.map λ| .const _=>true|_=>false)];simp only[resolve,LF,invoke]
     rfl
    rw[e1];exact this
   unfold AK at h;generalize N0:z7.toList=ts at h;split at h
   ·rename_i t r x;exact base (Builtin.len_ z7 ty #[x]) (λcs=>rfl) (HQ (t:=t) (.inr ⟨r,N0⟩) h)
   ·rename_i k x r;cases hm:qN x r with
    |none=>simp only[hm,no] at h
    |some m=>
     simp only[hm] at h;exact base (Builtin.min_ z7 ty ⟨.int k x::r⟩) (λcs=>rfl) ⟨_,Cw hm,h⟩
   ·rename_i k x r;cases hm:FD x r with
    |none=>simp only[hm,no] at h
    |some m=>
     simp only[hm] at h;exact base (Builtin.max_ z7 ty ⟨.int k x::r⟩) (λcs=>rfl) ⟨_,HN hm,h⟩
   ·simp[cls] at hc
   ·simp[cls] at hc
   ·simp[cls] at hc
   ·simp[cls] at hc
   ·exact h.elim
def Fy(hE:sg P E)(hs:Sub n e a){o:Oper}(hc:cls P o.op=0)(h:yN P T E e o.op o.type K w):Pure P (execOp a.eval o) w K:=by
 obtain⟨dst,op,ty,pos,after,guard⟩:=o;simp only at hc h;cases op<;>simp[cls] at hc<;>simp only[yN] at h
 case move x=>
  cases hx:ev e x with
  |none=>simp only[hx,no] at h
  |some v=>simp only[hx] at h;exact .of_eq v (by simp only[execOp,hs.eval hx]) h
 case assign x=>
  cases hx:ev e x with
  |none=>simp only[hx,no] at h
  |some v=>simp only[hx] at h;exact .of_eq v (by simp only[execOp,hs.eval hx]) h
 case pick c x y=>
  cases hx:ev e c with
  |none=>simp only[hx,no] at h
  |some v=>
   cases v<;>simp only[hx,no] at h
   rename_i b;cases b with
   |true=>
    simp only[br] at h;cases hy:ev e x with
    |none=>simp only[hy,no] at h
    |some u=>simp only[hy] at h;exact .of_eq u (by simp only[execOp,hs.eval hx,hs.eval hy,asBool,pure_bind,if_true]) h
   |false=>
    simp only[br] at h;cases hy:ev e y with
    |none=>simp only[hy,no] at h
    |some u=>simp only[hy] at h;exact .of_eq u (by simp only[execOp,hs.eval hx,hs.eval hy,asBool,pure_bind,cG,if_false]) h
 case nilCheck x=>
  cases hx:ev e x with
  |none=>simp only[hx,no] at h
  |some v=>
   simp only[hx] at h;unfold Zk at h;split at h
   ·rename_i p;cases p with
    |none=>exact h.elim
    |some p=>simp only[nn] at h;exact .of_eq _ (by simp only[execOp,hs.eval hx]) h
   ·exact .of_eq _ (by simp only[execOp,hs.eval hx]) h
   ·exact h.elim
 case binOp op t x y u=>
  cases hx:ev e x with
  |none=>simp only[hx,no] at h
  |some v=>
   cases hy:ev e y with
   |none=>simp only[hx,hy,no] at h
   |some u=>
    simp only[hx,hy] at h;simp only[execOp,hs.eval hx,hs.eval hy];exact PV.pure (RY hE h)
 case unOp op t x=>
  cases hx:ev e x with
  |none=>simp only[hx,no] at h
  |some v=>
   simp only[hx] at h;simp only[execOp,hs.eval hx];exact PV.pure (SK h)
 case makeFunc fn first cap=>
  cases hx:RE e first.toList with
  |none=>simp only[hx,no] at h
  |some f=>
   cases hy:RE e cap.toList with
   |none=>simp only[hx,hy,no] at h
   |some c=>
    simp only[hx,hy] at h;simp only[execOp,hs.JB hx,hs.JB hy];exact PV.pure ⟨_,λw'=>rfl,h⟩
 case slice t x lo hi mx=>
  cases mx with
  |some _=>simp only[no] at h
  |none=>
   simp only at h;cases hx:ev e x with
   |none=>simp only[hx,no] at h
   |some v=>
    cases hl:V5 e lo with
    |none=>simp only[hx,hl,no] at h
    |some l=>
     cases hh:V5 e hi with
     |none=>simp only[hx,hl,hh,no] at h
     |some u=>
      simp only[hx,hl,hh] at h;simp only[execOp,hs.eval hx];exact PV.pure (KC (hs.V5 hl) (hs.V5 hh) h)
 case fieldAddr t x f=>
  cases hx:ev e x with
  |none=>simp only[hx,no] at h
  |some v=>
   simp only[hx] at h;simp only[execOp,hs.eval hx];exact PV.pure (DO h)
 case field t x f=>
  cases hx:ev e x with
  |none=>simp only[hx,no] at h
  |some v=>
   simp only[hx] at h;simp only[execOp,hs.eval hx];exact PV.pure (LW h)
 case indexAddr t x i=>
  cases hx:ev e x with
  |none=>simp only[hx,no] at h
  |some v=>
   cases hy:ev e i with
   |none=>simp only[hx,hy,no] at h
   |some j=>
    simp only[hx,hy] at h;simp only[execOp,hs.eval hx,hs.eval hy];exact PV.pure (DL h)
 case index t x i=>
  cases hx:ev e x with
  |none=>simp only[hx,no] at h
  |some v=>
   cases hy:ev e i with
   |none=>simp only[hx,hy,no] at h
   |some j=>
    simp only[hx,hy] at h;simp only[execOp,hs.eval hx,hs.eval hy];exact PV.pure (Ls h)
 case extract x i=>
  cases hx:ev e x with
  |none=>simp only[hx,no] at h
  |some v=>
   cases v<;>simp only[hx,no] at h
   rename_i vs;cases hv:vs[i]? with
   |none=>simp only[hv,no] at h
   |some u=>
    simp only[hv] at h;simp only[execOp,hs.eval hx];exact PV.pure ⟨u,λw'=>by simp[Instr.extract,hv],h⟩
 case build t ps=>
  cases hx:JC e ps.toList with
  |none=>simp only[hx,no] at h
  |some l=>
   simp only[hx] at h;have hm:(ps.map λ(i,x)=>(i,a.eval x))=⟨l⟩:=by
    have:=hs.Od hx;apply uF;rw[Array.toList_map];exact this
   simp only[execOp,hm];exact PV.pure (Mm h)
 case convert s d x=>
  cases hx:ev e x with
  |none=>simp only[hx,no] at h
  |some v=>
   simp only[hx] at h;simp only[execOp,hs.eval hx];cases hd:P.underlying d with
   |none=>simp[hd] at hc
   |some dd=>
    cases dd<;>simp[hd] at hc
    unfold Ej at h;cases VM:P.underlying s with
    |none=>simp only[VM,no] at h
    |some sd=>
     simp only[VM,hd] at h;cases v<;>simp only[no] at h
     exact PV.pure ⟨_,λw'=>run_convert_int VM hd _ _ w',h⟩
 case call c=>
  simp only[execOp];exact JP hs (by simp only[cls];exact hc) h
def Fx(hE:sg P E)(hT:oo P T)(hs:Sub n e a){o:Oper}(h:yN P T E e o.op o.type K w):To P (execOp a.eval o) w K:=by
 by_cases hc:cls P o.op=0
 ·exact(Fy hE hs hc h).toX
 obtain⟨dst,op,ty,pos,after,guard⟩:=o;simp only at hc h;cases op<;>simp[cls] at hc<;>simp only[yN,no] at h
 case alloc t=>
  cases hz:zeroOf P t with
  |none=>simp only[hz,no] at h
  |some z=>
   simp only[hz] at h;cases hsf:Ho P t with
   |true=>rw[hsf] at h;exact SV.toX (R6 hz h)
   |false=>rw[hsf] at h;exact SV.toX (U5 hz h)
 case box t x=>
  cases hx:ev e x with
  |none=>simp only[hx,no] at h
  |some v=>
   simp only[hx] at h;simp only[execOp,hs.eval hx];exact SV.toX (acY h v rfl)
 case buildSlice t m ps=>
  cases hx:JC e ps.toList with
  |none=>simp only[hx,no] at h
  |some l=>
   simp only[hx] at h;have hm:(ps.map λ(i,x)=>(i,a.eval x))=⟨l⟩:=by
    have:=hs.Od hx;apply uF;rw[Array.toList_map];exact this
   simp only[execOp,hm];exact SV.toX (G8 h)
 case load t x=>
  cases hx:ev e x with
  |none=>simp only[hx,no] at h
  |some v=>
   cases v<;>simp only[hx,no] at h
   rename_i p;cases p with
   |none=>exact h.elim
   |some p=>
    simp only at h;simp only[execOp,hs.eval hx];obtain⟨v,cs,hH,hr,hk⟩:=xn h;exact SV.toX ⟨v,w,by simp[Instr.loadAt,Instr.sureAddr,hr w hH],hk⟩
 case store t x y=>
  cases hx:ev e x with
  |none=>simp only[hx,no] at h
  |some v=>
   cases hy:ev e y with
   |none=>cases v<;>simp only[hx,hy,no] at h
   |some u=>
    cases v<;>simp only[hx,hy,no] at h
    rename_i p;cases p with
    |none=>exact h.elim
    |some p=>
     simp only at h;simp only[execOp,hs.eval hx,hs.eval hy];obtain⟨w',hr,hk⟩:=GM h;exact .inr (.inl ⟨w',by simp[Instr.storeAt,Instr.sureAddr,hr],hk⟩)
 case convert s d x=>
  cases hx:ev e x with
  |none=>simp only[hx,no] at h
  |some v=>
   simp only[hx] at h;simp only[execOp,hs.eval hx];exact SV.toX (Ol h)
 case makeSlice t m c=>
  cases hu:P.underlying t with
  |none=>simp only[hu,no] at h
  |some d=>
   cases hx:ev e m with
   |none=>cases d<;>simp only[hu,hx,no] at h
   |some mv=>
    cases hy:ev e c with
    |none=>cases d<;>simp only[hu,hx,hy,no] at h
    |some cv=>
     cases d<;>simp only[hu,hx,hy,no] at h
     cases mv<;>(try simp only[no] at h)
     cases cv<;>simp only[no] at h
     rename_i el k1 mi k2 ci;cases hi:P.info? el with
     |none=>simp only[hi,no] at h
     |some i=>
      simp only[hi] at h;cases hz:i.zero with
      |none=>simp only[hz,no] at h
      |some z=>
       simp only[hz] at h;cases hb:(Nat.blt 0 i.size&&ix (fA z).length i.size) with
       |false=>simp only[hb,cond_false,no] at h
       |true=>
        simp only[hb,cond_true] at h;simp only[dh] at hb;simp only[execOp,hs.eval hx,hs.eval hy];exact SV.toX (Xg hu hi hz (eH hb.2) h)
 case call c=>
  simp only[execOp];exact Oq hT hs h
end
def S2(F:Fn)(e:Env)(a:Act):Prop:=Sub F.n e a/\Sub F.n F.C a
def QS(F:Fn)(Q:Exit->Env->WK):Exit->Act->World->Prop:=λex a w=>(∃e,S2 F e a/\Q ex e w)/\∀c,ex≠.panic c
structure Ok(F:Fn):Prop where
 Hj:oo F.P F.T
 eqs:sg F.P F.E
 mixed:F.P.follows .mixedOrders=true
section
variable {F:Fn} {P:Program} {w:World} {e:Env} {a:Act} {ops:Array Oper}
def Vn{Q:Exit->Env->WK}{c:List PanicEntry}{a:Act}{w:World}: ¬QS F Q (.panic c) a w:=λh=>h.2 c rfl
def uN{d:Option Tmp}{v:Value}{K:Env->WK}(hs:S2 F e a)(h:pt F.n F.C e d v K w):∃e',S2 F e' (a.put d v)/\K e' w:=by
 cases d with
 |none=>exact⟨e,hs,h⟩
 |some d=>
  simp only[pt] at h;cases hb:(Nat.blt d F.n&&cover F.C d) with
  |false=>simp only[hb,cond_false,no] at h
  |true=>
   simp only[hb,cond_true] at h;simp only[dh] at hb;have Rn:=hs.1.put (by have:=hb.1;rwa[Nat.blt_eq] at this) v;refine⟨_,⟨Rn,Rn.size,Rn.defers,λt u ht=>?_⟩,h⟩;have jW:d≠t:=λhd=>by
    subst hd;have:=hb.2;simp only[cover,ht,cG] at this
   simp only[Act.put];rw[Array.getElem?_setIfInBounds_ne jW];exact hs.2.get t u ht
def Kh{o:Oper}{K:VK}{next:Act->World->Prop}{Q:Exit->Act->World->Prop}(h:To P (execOp a.eval o) w K)(hk:∀v w',K v w'->next (a.put o.dst v) w'):o.wp P a w next Q:=by
 unfold Oper.wp;rcases h with⟨v,w',hr,h⟩|⟨w',hr,h⟩|⟨g,args,w',hr,h⟩
 ·rw[hr];exact hk _ _ h
 ·rw[hr];exact hk _ _ h
 ·rw[hr];refine Calls.mono h λe w'' ⟨v,he,hv⟩=>?_;subst he;exact hk _ _ hv
def Uo{j:Nat}{d:Tmp}{b:Bool}(hd:RB ops j=some d)(h:lk e d=some (.bool b)){n:Nat}(hs:Sub n e a):yielded ops a.tmps j=some b:=by
 unfold RB at hd;unfold yielded;cases ho:ops[j]? with
 |none=>simp[ho] at hd
 |some o=>
  simp only[ho] at hd;simp only[Option.bind_some,hd,hs.get _ _ h]
def Iw(a b:Bool):Oz a b=(a==b):=by cases a<;>cases b<;>rfl
def s8{o:Oper}{run skip:Env->WK}{X:Prop}(hs:S2 F e a)(h:guarded ops o e run skip w)
 (hr:∀e',S2 F e' a->Region.wanted o (yielded ops a.tmps)=true->run e' w->X)
 (hk:∀e',S2 F e' a->Region.wanted o (yielded ops a.tmps)=false->skip e' w->X):X:=by
 unfold guarded at h;cases hg:o.guard with
 |none=>
  simp only[hg] at h;exact hr e hs (by simp[Region.wanted,hg]) h
 |some jw=>
  obtain⟨j,want⟩:=jw;simp only[hg] at h;cases hd:RB ops j with
  |none=>simp only[hd,no] at h
  |some d=>
   simp only[hd] at h;cases hl:lk e d with
   |none=>simp only[hl,no] at h
   |some v=>
    cases v<;>simp only[hl,no] at h
    case tuple vs=>
     refine hk e hs ?_ h;have:yielded ops a.tmps j=none:=by
      unfold RB at hd;unfold yielded;cases ho:ops[j]? with
      |none=>simp[ho] at hd
      |some o=>
       simp only[ho] at hd;simp only[Option.bind_some,hd,hs.1.get _ _ hl]
     simp only[Region.wanted,hg,this]
     rfl
    rename_i b;have hy:=Uo hd hl hs.1;have Ke:S2 F _ a:=⟨hs.1.again hl,hs.2⟩;have hw:Region.wanted o (yielded ops a.tmps)=(b==want):=by
     simp only[Region.wanted,hg,hy];cases b<;>cases want<;>rfl
    cases b with
    |true=>
     simp only[br,Iw] at h;cases hb:(true==want) with
     |true=>simp only[hb,cond_true] at h;exact hr _ Ke (by rw[hw,hb]) h
     |false=>simp only[hb,cond_false] at h;exact hk _ Ke (by rw[hw,hb]) h
    |false=>
     simp only[br,Iw] at h;cases hb:(false==want) with
     |true=>simp only[hb,cond_true] at h;exact hr _ Ke (by rw[hw,hb]) h
     |false=>simp only[hb,cond_false] at h;exact hk _ Ke (by rw[hw,hb]) h
def zO{o:Oper}{K:Env->WK}(h:Zj F ops o K e w):
 guarded ops o e (λe=>yN F.P F.T F.E e o.op o.type λv=>pt F.n F.C e o.dst v K) (λe=>pt F.n F.C e o.dst undef K) w:=h
def Bc(hF:Ok F){Q:Exit->Act->World->Prop}{K:Env->WK}(hK:∀e a w,S2 F e a->K e w->Q .normal a w):
 ∀(l:List Nat)(os:List Oper)(e:Env)(a:Act)(w:World),l.length=os.length->(∀k i:Nat,l[k]?=some i->ops[i]?=os[k]?)->S2 F e a->yG F ops os K e w->wpOps F.P ops Q l a w
 |[],[],e,a,w,_,_,hs,h=>hK e a w hs h
 |[],_::_,_,_,_,hl,_,_,_=>by simp at hl
 |_::_,[],_,_,_,hl,_,_,_=>by simp at hl
 |i::l,o::os,e,a,w,hl,hi,hs,h=>by
  have hio:ops[i]?=some o:=hi 0 i rfl;have rest:=λe a w=>Bc hF hK l os e a w (by simpa using hl) (λ(k j:Nat)(hk:l[k]?=some j)=>hi (k+1) j (by simpa using hk));rw[wpOps_cons];unfold wpOp;simp only[hio];refine s8 (F:=F) hs (zO h) (λe' fC hw hr=>?_) (λe' fC hw hr=>?_)
  ·rw[ai hw];refine .inl (Kh (Fx hF.eqs hF.Hj fC.1 hr) λv w' hv=>?_);obtain⟨UA,yo,hk⟩:=uN fC hv;exact rest _ _ _ yo hk
  ·rw[af (by rw[hw];exact cJ)];obtain⟨UA,yo,hk⟩:=uN fC hr;exact rest _ _ _ yo hk
abbrev SL:=List (Nat×(World->Prop))
def xY(o:Oper)(S:SL):SL:=S.filter λp=> !waits o p.1
def wpAnyS(P:Program)(ops:Array Oper)(Q:Exit->Act->World->Prop):Nat->SL->Array Bool->Act->World->Prop
 |0,_,listed,a,w=>Region.ready .any ops listed=[]/\Q .normal a w
 |fuel+1,S,listed,a,w=>
  (Region.ready .any ops listed=[]->Q .normal a w)/\
  ∀i∈Region.ready .any ops listed,∀o,ops[i]?=some o->wpOp P ops Q i (λa' w'=>(∀p∈xY o S,p.2 w')/\wpAnyS P ops Q fuel (xY o S) (listed.setIfInBounds i true) a' w') a w
def EE{Q:Exit->Act->World->Prop}:∀(fuel:Nat)(S:SL)(listed:Array Bool)(a:Act)(w:World),wpAnyS P ops Q fuel S listed a w->wpAny P .any ops Q fuel listed a w
 |0,_,_,_,_,h=>h
 |fuel+1,S,listed,a,w,h=>⟨h.1,λi hi=>by
                          obtain⟨_,o,ho,_⟩:=mem_ready.1 hi
                          exact wpOp_mono (λa' w' h'=>EE fuel _ _ a' w' h'.2) (h.2 i hi o ho)⟩
def tf{Q:Exit->Act->World->Prop}:∀(fuel:Nat)(S S':SL)(listed:Array Bool)(a:Act)(w:World),(∀p∈S',p∈S\/∀w,p.2 w)->wpAnyS P ops Q fuel S listed a w->wpAnyS P ops Q fuel S' listed a w
 |0,_,_,_,_,_,_,h=>h
 |fuel+1,S,S',listed,a,w,aa4,h=>⟨h.1,λi hi o ho=>by
                                 have hs:∀p∈xY o S',p∈xY o S\/∀w,p.2 w:=λp hp=>by
                                  simp only[xY,AQ] at hp⊢
                                  exact(aa4 _ hp.1).imp (λh=>⟨h,hp.2⟩) id
                                 exact wpOp_mono (λa' w' h'=>⟨λp hp=>(hs p hp).elim (h'.1 p) (λh=>h w'),tf fuel _ _ _ a' w' hs h'.2⟩) (h.2 i hi o ho)⟩
def wpAnyS_first{Q:Exit->Act->World->Prop}{i:Nat}{oi:Oper}{v:Value}{Y:World->Prop}(hi:ops[i]?=some oi)(CA:∀(j:Nat)(o:Oper) cs b,ops[j]?=some o->o.op≠.select cs b)
 (hQ:∀c a w,Q (.panic c) (a.put oi.dst v) w->Q (.panic c) a w):
 ∀(fuel:Nat)(S:SL)(listed:Array Bool)(a:Act)(w:World),
  (∀j oj,ops[j]?=some oj->j≠i->listed.getD j true=false->(∀e∈oj.after,Region.binds .any e=true->e.on≠i)->oi.apart ops oj=true)->
  i∈Region.ready .any ops listed->YieldsIf P ops Y oi v a->Y w->(∀p∈S,p.2 w)->
  wpAnyS P ops Q fuel ((i,Y)::S) (listed.setIfInBounds i true) (a.put oi.dst v) w->wpAnyS P ops Q (fuel+1) S listed a w:=by
 intro fuel
 induction fuel with
 |zero=>
  intro S listed a w _ hr hy hY hS H;refine⟨λh=>(by rw[h] at hr;cases hr),λj hj o ho=>?_⟩;by_cases LJ:j=i
  ·subst LJ;rw[hi] at ho;cases ho
   exact hy.wpOp hi hY ⟨λp hp=>hS p (AQ.1 hp).1,H⟩
  ·have:=ready_mono hj LJ;rw[H.1] at this;cases this
 |succ fuel ih=>
  intro S listed a w H6 hr hy hY hS H;refine⟨λh=>(by rw[h] at hr;cases hr),λj hj o ho=>?_⟩;by_cases LJ:j=i
  ·subst LJ;rw[hi] at ho;cases ho
   refine hy.wpOp hi hY ⟨λp hp=>hS p (AQ.1 hp).1,?_⟩;exact tf _ _ _ _ _ _ (λp hp=>.inl (fJ _ (AQ.1 hp).1)) H
  ·have h1:=H.2 j (ready_mono hj LJ) o ho;obtain⟨adp,oj,hoj,fx⟩:=mem_ready.1 hj;rw[ho] at hoj;cases hoj
   have hun:=(mem_ready.1 hr).1;have adg:∀e∈o.after,Region.binds .any e=true->e.on≠i:=λe he hb heq=>by
    have h1:=fx e he hb;have h0:=hun;rw[heq] at h1;rcases Nat.lt_or_ge i listed.size with h'|h'
    ·simp[h'] at h0 h1;rw[h0] at h1;cases h1
    ·simp[Array.getElem?_eq_none h'] at h1
   have hnw:waits o i=false:=by
    cases hw:waits o i with
    |false=>rfl
    |true=>
     simp only[waits,Array.any_eq_true'] at hw;obtain⟨e,he,hb⟩:=hw;simp only[dh] at hb;exact aQ (eH hb.2) (adg e he hb.1)
   have adx:xY o ((i,Y)::S)=(i,Y)::xY o S:=by simp[xY,hnw]
   rw[adx] at h1;have h2:=wpOp_putIf ho (H6 j o ho LJ adp adg) (λcs b=>CA i oi cs b hi) (λcs b=>CA j o cs b ho) hQ hy h1;have abg:∀k ok,ops[k]?=some ok->k≠i->(listed.setIfInBounds j true).getD k true=false->
      (∀e∈ok.after,Region.binds .any e=true->e.on≠i)->oi.apart ops ok=true:=λk ok hk hki hun Jm=>by
    refine H6 k ok hk hki ?_ Jm;by_cases hjk:j=k
    ·subst hjk;exact adp
    ·rw[getD_set_ne true hjk] at hun;exact hun
   refine wpOp_mono (λa' w' h3=>?_) h2;have hY':Y w':=h3.2.1 (i,Y) (by simp);have hS':∀p∈xY o S,p.2 w':=λp hp=>h3.2.1 p (by simp[hp]);refine⟨hS',ih (xY o S) (listed.setIfInBounds j true) a' w' abg (ready_mono hr (Ne.symm LJ)) h3.1 hY' hS' ?_⟩;rw[Array.setIfInBounds_comm _ _ LJ];exact h3.2.2
def YS(S:DR):SL:=S.map λp=>(p.1,λw=>yg w p.2.1 p.2.2)
def Vc(o:Oper)(S:DR):YS (stays o S)=xY o (YS S):=by
 induction S with
 |nil=>rfl
 |cons p S ih=>
  simp only[YS,stays,xY,dA,List.filter_cons] at ih⊢;cases waits o p.1<;>simp[ih]
def Lr:∀{S:DR} {K:WK} {w:World},nj S K w->(∀p∈YS S,p.2 w)/\K w
 |[],_,_,h=>⟨by simp[YS],h⟩
 |(i,b,cs)::S,K,w,h=>by
  obtain⟨h1,h2⟩:=h;obtain⟨h3,h4⟩:=Lr h2;refine⟨λp hp=>?_,h4⟩;simp only[YS,dA,jX] at hp;rcases hp with rfl|hp
  ·exact h1
  ·exact h3 p hp
def My:∀{l:List Nat} {f:Nat->WK} {w:World},abV l f w->∀i∈l,f i w
 |[],_,_,_,i,hi=>by simp at hi
 |[j],f,w,h,i,hi=>by simp at hi;subst hi;exact h
 |j::k::r,f,w,h,i,hi=>by
  rcases jX.1 hi with rfl|hi
  ·exact h.1
  ·exact My (l:=k::r) h.2 i hi
def Tw(hE:sg F.P F.E)(hs:Sub F.n e a){i:Nat}{o:Oper}{S:DR}{K:DR->VK}(hq:Nat.blt (cls F.P o.op) 2=true)(h:W0 F e i o S K w)(hS:∀p∈YS S,p.2 w):
 ∃v Y S',(∀w',Y w'->(execOp a.eval o).run F.P w'=.ok (.value v) w')/\Y w/\K S' v w/\(∀p∈YS S',p.2 w)/\(∀p∈(i,Y)::YS S,p∈YS S'\/∀w,p.2 w):=by
 rw[Nat.blt_eq] at hq;by_cases hc:cls F.P o.op=0
 ·have:yN F.P F.T F.E e o.op o.type (K S) w:=by
   unfold W0 at h;generalize Lz:o.op=op at h;split at h
   ·rw[Lz] at hc;simp[cls] at hc
   ·exact h
  obtain⟨v,hr,hk⟩:=Fy hE hs hc this;exact⟨v,λ_=>True,S,λw' _=>hr w',trivial,hk,hS,λp hp=>by
   rcases jX.1 hp with rfl|hp
   ·exact .inr λ_=>trivial
   ·exact .inl hp⟩
 ·have h1:cls F.P o.op=1:=by omega
  obtain⟨dst,op,ty,pos,after,guard⟩:=o;simp only at h1;have:∃t x,op=.load t x:=by
   cases op<;>simp only[cls] at h1<;>first
    |exact⟨_,_,rfl⟩
    |(exfalso;omega)
    |(exfalso;revert h1;split<;>omega)
    |(exfalso;revert h1;split<;>(try split)<;>omega)
  obtain⟨t,x,rfl⟩:=this;simp only[W0] at h;cases hx:ev e x with
  |none=>simp only[hx,no] at h
  |some v=>
   cases v<;>simp only[hx,no] at h
   rename_i p;cases p with
   |none=>exact h.elim
   |some p=>
    simp only at h;obtain⟨v,cs,hH,hr,hk⟩:=xn h;refine⟨v,λw'=>yg w' p cs,(i,p,cs)::S,λw' Si=>?_,hH,hk,λq hq=>?_,λq hq=>.inl (by simpa [YS] using hq)⟩
    ·simp only[execOp,hs.eval hx];simp[Instr.loadAt,Instr.sureAddr,hr w' Si]
    ·simp only[YS,dA,jX] at hq;rcases hq with rfl|hq
     ·exact hH
     ·exact hS q hq
def qU(hF:Ok F)(CA:Region.noSelect ops=true){Q:Exit->Act->World->Prop}(hQ:∀c a w,¬Q (.panic c) a w){K:Env->WK}(hK:∀e a w,S2 F e a->K e w->Q .normal a w):
 ∀(f:Nat)(listed:Array Bool)(S:DR)(e:Env)(a:Act)(w:World),S2 F e a->(∀p∈YS S,p.2 w)->vx F ops K f listed S e w->wpAnyS F.P ops Q f (YS S) listed a w
 |0,listed,S,e,a,w,hs,hS,h=>by
  simp only[vx] at h;cases hr:Region.ready .any ops listed with
  |nil=>simp only[hr] at h;exact⟨hr,hK e a w hs h⟩
  |cons r rs=>simp only[hr,no] at h
 |f+1,listed,S,e,a,w,hs,hS,h=>by
  simp only[vx] at h;cases hr:Region.ready .any ops listed with
  |nil=>
   simp only[hr] at h;exact⟨λ_=>hK e a w hs h,λi hi=>by rw[hr] at hi;simp at hi⟩
  |cons r rs=>
   simp only[hr] at h;cases hf:(r::rs).find? (quietAt F.P ops) with
   |some i=>
    simp only[hf] at h;have qe:i∈Region.ready .any ops listed:=by rw[hr];exact ni hf
    have T4:=List.find?_some hf;cases ho:ops[i]? with
    |none=>simp only[ho,no] at h
    |some o=>
     simp only[ho] at h;simp only[quietAt,ho] at T4;cases H6:Region.free .any ops listed i with
     |false=>simp only[H6,cond_false,no] at h
     |true=>
      simp only[H6,cond_true] at h;have BH:=Region.free_spec ho H6;refine s8 (F:=F) hs h (λe' fC hw nu=>?_) (λe' fC hw nu=>?_)
      ·obtain⟨v,Y,S',hy,hY,hk,hS',aa4⟩:=Tw hF.eqs fC.1 T4 nu hS;obtain⟨UA,yo,hk⟩:=uN fC hk;have ih:=qU hF CA hQ hK f _ S' UA _ w yo hS' hk;exact wpAnyS_first ho (Region.noSelect_spec CA) (λc a w h=>(hQ _ _ _ h).elim) f (YS S) listed a w BH qe (.inl ⟨hw,hy⟩) hY hS (tf _ _ _ _ _ _ aa4 ih)
      ·obtain⟨UA,yo,hk⟩:=uN fC nu;have ih:=qU hF CA hQ hK f _ S UA _ w yo hS hk;refine wpAnyS_first (Y:=λ_=>True) ho (Region.noSelect_spec CA) (λc a w h=>(hQ _ _ _ h).elim) f (YS S) listed a w BH qe (.inr ⟨hw,rfl⟩) trivial hS
        (tf _ _ _ _ _ _ (λp hp=>by
         rcases jX.1 hp with rfl|hp
         ·exact .inr λ_=>trivial
         ·exact .inl hp) ih)
   |none=>
    simp only[hf] at h;refine⟨λh0=>(by rw[hr] at h0;cases h0),λi hi o ho=>?_⟩;have u9:=My h i (by rw[<-hr];exact hi);simp only[ho] at u9;unfold wpOp;simp only[ho];refine s8 (F:=F) hs u9 (λe' fC hw nu=>?_) (λe' fC hw nu=>?_)
    ·rw[ai hw];refine .inl (Kh (Fx hF.eqs hF.Hj fC.1 nu) λv w' hv=>?_);obtain⟨hk,hv⟩:=Lr hv;obtain⟨UA,yo,AU⟩:=uN fC hv;rw[<-Vc];exact⟨hk,qU hF CA hQ hK f _ _ UA _ w' yo hk AU⟩
    ·rw[af (by rw[hw];exact cJ)];obtain⟨UA,yo,AU⟩:=uN fC nu;have ih:=qU hF CA hQ hK f _ S UA _ w yo hS AU;refine⟨λp hp=>hS p (AQ.1 hp).1,tf _ _ _ _ _ _ (λp hp=>.inl (AQ.1 hp).1) ih⟩
def nW{n:Nat}{e:Env}{a:Act}(hs:Sub n e a):∀{l:List (Nat×Value)} {vs:LV},wg e l=some vs->
 (∀t v,lk (AZ l vs []) t=some v->a.tmps[t]?=some v)/\vs=l.map (λp=>a.tmps.getD p.1 undef)/\(∀f,Gm (l.map (·.2)) f->f vs)
 |[],vs,h=>by
  simp only[wg,bE.injEq] at h;subst h;exact⟨λt v h=>by simp[AZ,lk] at h,rfl,λf h=>h⟩
 |(t,z)::l,vs,h=>by
  simp only[wg] at h;cases h1:lk e t with
  |none=>simp[h1] at h
  |some v=>
   simp only[h1] at h;cases h2:fits z v with
   |false=>simp[h2] at h
   |true=>
    simp only[h2,cond_true] at h;cases h3:wg e l with
    |none=>simp[h3] at h
    |some us=>
     simp only[h3,bE.injEq] at h;subst h;obtain⟨i1,i2,i3⟩:=nW hs h3;refine⟨λs u hsu=>?_,?_,λf hf=>?_⟩
     ·simp only[AZ,xo] at hsu;split at hsu
      ·rename_i N0;subst N0;cases hsu;exact hs.get _ _ h1
      ·exact i1 s u hsu
     ·simp only[dA,<-i2];have:=hs.get t v h1;rw[Array.getD_eq_getD_getElem?,this];rfl
     ·simp only[dA,Gm] at hf;have key:Gm (l.map (·.2)) λvs=>f (v::vs):=by
       cases z<;>cases v<;>simp only[fits,cG,decide_eq_true_eq] at h2<;>simp only[aeM] at hf<;>first
        |(rename_i p q;cases p<;>cases q<;>simp only[fits,cG] at h2<;>exact hf _)
        |exact hf _
        |exact hf _ _ _
        |(subst h2;exact hf _)
        |(rename_i cs;exact hf cs.toList)
      exact i3 _ key
def PK:∀(l:List (Nat×Value))(vs:LV)(C:Env)(t:Nat)(v:Value),lk (AZ l vs C) t=some v->lk (AZ l vs []) t=some v\/lk C t=some v
 |[],vs,C,t,v,h=>by cases vs<;>(simp only[AZ] at h;exact .inr h)
 |(s,z)::l,[],C,t,v,h=>by simp only[AZ] at h;exact .inr h
 |(s,z)::l,u::vs,C,t,v,h=>by
  simp only[AZ,xo] at h⊢;split at h
  ·rename_i u7;rw[ai u7];exact .inl h
  ·rename_i u7;rw[af u7];exact PK l vs C t v h
def S2.zip(hs:S2 F e a){l:List (Nat×Value)}{vs:LV}(h:wg e l=some vs):S2 F (AZ l vs F.C) a:=by
 refine⟨⟨hs.1.size,hs.1.defers,λt v ht=>?_⟩,hs.2⟩;rcases PK l vs F.C t v ht with h'|h'
 ·exact(nW hs.1 h).1 t v h'
 ·exact hs.2.get t v h'
def RK(hF:Ok F):∀(c:Code)(Q:Exit->Env->WK)(e:Env)(a:Act)(w:World),S2 F e a->den F c Q e w->c.wp F.P (QS F Q) a w:=by
 intro c
 induction c with
 |skip=>intro Q e a w hs h;exact wp_skip ⟨⟨e,hs,h⟩,by simp⟩
 |ret=>intro Q e a w hs h;exact wp_ret ⟨⟨e,hs,h⟩,by simp⟩
 |exit i=>intro Q e a w hs h;exact wp_exit ⟨⟨e,hs,h⟩,by simp⟩
 |seq x y ihx ihy=>
  intro Q e a w hs h;refine wp_seq (wp_mono (ihx _ e a w hs h) ?_);rintro ex a' w' ⟨⟨e',fC,hq⟩,hp⟩;cases ex<;>simp only[QK] at hq
  case normal=>exact ihy Q e' a' w' fC hq
  all_goals exact⟨⟨e',fC,hq⟩,hp⟩
 |cond x c1 c2 ih1 VH=>
  intro Q e a w hs h;simp only[den] at h;cases hx:ev e x with
  |none=>simp only[hx,no] at h
  |some v=>
   cases v<;>simp only[hx,no] at h
   rename_i b;cases b with
   |true=>exact wp_cond_true (hs.1.eval hx) (ih1 Q e a w hs h)
   |false=>exact wp_cond_false (hs.1.eval hx) (VH Q e a w hs h)
 |block i c ih=>
  intro Q e a w hs h;refine wp_block (wp_mono (ih _ e a w hs h) ?_);rintro ex a' w' ⟨⟨e',fC,hq⟩,hp⟩;cases ex<;>simp only[Ow] at hq
  case exit j=>
   simp only[Exit.inBlock];cases hb:ix j i with
   |true=>rw[ai (eH hb)];simp only[hb,cond_true] at hq;exact⟨⟨e',fC,hq⟩,by simp⟩
   |false=>
    have jW:j≠i:=λh=>by simp[h] at hb
    rw[af jW];simp only[hb,cond_false] at hq;exact⟨⟨e',fC,hq⟩,by simp⟩
  all_goals exact⟨⟨e',fC,hq⟩,hp⟩
 |loop c ih=>
  intro Q e a w hs h;simp only[den] at h;cases hl:Qq F.JR (key c) with
  |none=>simp only[hl,no] at h
  |some l=>
   simp only[hl] at h;cases hv:wg e l with
   |none=>simp only[hv,no] at h
   |some vs=>
    simp only[hv] at h;obtain⟨I,μ,h0,N2⟩:=h;have T2:=(nW hs.1 hv).2.1;refine wp_loop (λa w=>S2 F (AZ l (l.map λp=>a.tmps.getD p.1 undef) F.C) a/\I (l.map λp=>a.tmps.getD p.1 undef) w/\∀f,Gm (l.map (·.2)) f->f (l.map λp=>a.tmps.getD p.1 undef))
     (λa w=>μ (l.map λp=>a.tmps.getD p.1 undef) w) ?_ ?_
    ·rw[<-T2];exact⟨hs.zip hv,h0,(nW hs.1 hv).2.2⟩
    ·intro a1 w1 ⟨AS,hI1,fx⟩;have hr:=fx _ N2 w1 hI1;apply wp_mono (ih _ _ a1 w1 AS hr);rintro ex a' w' ⟨⟨e',fC,hq⟩,hp⟩;cases ex<;>simp only[QK] at hq
     case normal=>
      simp only[TT] at hq;cases Dh:wg e' l with
      |none=>simp only[Dh,no] at hq
      |some GA=>
       simp only[Dh] at hq;have N3:=(nW fC.1 Dh).2.1;simp only[Exit.then];rw[<-N3];exact⟨⟨fC.zip Dh,hq.1,(nW fC.1 Dh).2.2⟩,hq.2⟩
     all_goals exact⟨⟨e',fC,hq⟩,hp⟩
 |region id ops draw=>
  intro Q e a w hs h;simp only[den] at h;cases draw with
  |true=>
   simp only[cond_true] at h;cases CA:Region.noSelect ops with
   |false=>simp only[CA,cond_false,no] at h
   |true=>
    simp only[CA,cond_true,tick] at h;apply wp_region_any hF.mixed;rw[World.drew_eq];exact EE _ _ _ _ _ (qU hF CA (λc a w=>Vn) (λe a w hs hk=>⟨⟨e,hs,hk⟩,by simp⟩) _ _ [] e a _ hs (by simp[YS]) h)
  |false=>
   simp only[cond_false] at h;refine wp_region (Bc hF (λe a w hs hk=>⟨⟨e,hs,hk⟩,by simp⟩) (pK ops.size) ops.toList e a w (by simp) (λk i hk=>?_) hs h);rw[q8] at hk
   ·simp only[bE.injEq] at hk;subst hk;simp
   ·have:=(av.1 hk).1;simpa using this
 |_=>intro Q e a w hs h;exact h.elim
def QQ(P:Program)(e:Env):List ResultVar->(LV->WK)->WK
 |[],K=>K []
 | .tmp t::r,K=>match lk e t with
   |some v=>QQ P e r λvs=>K (v::vs)
   |none=>no
 | .cell b t::r,K=>match lk e b with
   |some (.pointer (some a))=>Bz P t a λ_ v=>QQ P e r λvs=>K (v::vs)
   |_=>no
def aaG(vs:LV):Value:=match vs with|[v]=>v|vs=>.tuple ⟨vs⟩
def aaH(P:Program)(rs:List ResultVar)(K:VK)(e:Env):WK:=QQ P e rs λvs=>K (aaG vs)
def ae5(P:Program)(rs:List ResultVar)(K:VK):Exit->Env->WK
 | .normal,e=>aaH P rs K e
 | .ret,e=>aaH P rs K e
 |_,_=>no
def Aa(Je:List Nat)(want:Bool):Nat->LV->Env
 |_,[]=>[]
 |i,v::vs=>bif Oz (Je.any (ix i)) want then(i,v)::Aa Je want (i+1) vs else Aa Je want (i+1) vs
def Lm(m:List Nat)(b:Bool):∀(vs:LV)(i t:Nat)(v:Value),lk (Aa m b i vs) t=some v->i<=t/\vs[t-i]?=some v
 |[],i,t,v,h=>by simp[Aa,lk] at h
 |u::vs,i,t,v,h=>by
  simp only[Aa] at h;have rest:lk (Aa m b (i+1) vs) t=some v->i<=t/\(u::vs)[t-i]?=some v:=λh=>by
   obtain⟨h1,h2⟩:=Lm m b vs (i+1) t v h;refine⟨by omega,?_⟩;rw[show t-i=(t-(i+1))+1 from by omega];simpa using h2
  cases hb:Oz (m.any (ix i)) b with
  |false=>simp only[hb,cond_false] at h;exact rest h
  |true=>
   simp only[hb,cond_true,xo] at h;split at h
   ·rename_i hit;subst hit;cases h;exact⟨aF _,by simp⟩
   ·exact rest h
def HO:∀(e f:Env)(t:Nat)(v:Value),lk (e++f) t=some v->lk e t=some v\/lk f t=some v
 |[],f,t,v,h=>.inr h
 |(s,u)::e,f,t,v,h=>by
  simp only[lH,xo] at h⊢;split at h
  ·rename_i hs;rw[ai hs];exact .inl h
  ·rename_i hs;rw[af hs];exact HO e f t v h
def QU(tm:Array Value):ResultVar->Sem Value
 | .tmp t=>pure (tm.getD t undef)
 | .cell b t=>do loadVar t (<-asAddr (tm.getD b undef))
def Nu(fn:Func)(tm:Array Value):results fn tm=(do let vs<-fn.results.mapM (QU tm);pure (if h:vs.size=1 then vs[0] else .tuple vs)):=by
 unfold results
 congr 1
def Cj{n:Nat}{e:Env}{a:Act}(hs:Sub n e a):∀{rs:List ResultVar} {K:LV->WK},QQ P e rs K w->∃vs,(rs.mapM (QU a.tmps)).run P w=.ok vs w/\K vs w
 |[],K,h=>⟨[],rfl,h⟩
 | .cell b t::r,K,h=>by
   simp only[QQ] at h;cases h1:lk e b with
   |none=>simp only[h1,no] at h
   |some v=>
    cases v<;>simp only[h1,no] at h
    rename_i p;cases p with
    |none=>exact h.elim
    |some p=>
     simp only at h;obtain⟨v,cs,hH,hr,hk⟩:=xn h;obtain⟨vs,h2,hk⟩:=Cj hs hk;have hg:a.tmps.getD b undef=.pointer (some p):=by rw[Array.getD_eq_getD_getElem?,hs.get b _ h1];rfl
     refine⟨v::vs,?_,hk⟩;have h3:(QU a.tmps (.cell b t)).run P w=.ok v w:=by
      simp only[QU,hg,asAddr,pure_bind];exact hr w hH
     rw[List.mapM_cons,Sem.run_bind,h3,Result.andThen_ok,Sem.run_bind,h2];rfl
 | .tmp t::r,K,h=>by
   simp only[QQ] at h;cases h1:lk e t with
   |none=>simp only[h1,no] at h
   |some v=>
    simp only[h1] at h;obtain⟨vs,h2,hk⟩:=Cj hs h;have hg:a.tmps.getD t undef=v:=by rw[Array.getD_eq_getD_getElem?,hs.get t v h1];rfl
    refine⟨v::vs,?_,hk⟩;rw[List.mapM_cons,Sem.run_bind,QU,Sem.run_pure,Result.andThen_ok,Sem.run_bind,h2,hg];rfl
def body(P:Program)(T:GH)(E:Vw)(n:Nat)(m:List Nat)(JR:List (Nat×List (Nat×Value)))(rs:List ResultVar)(c:Code):WP:=λargs K=>
 den ⟨P,T,E,n,Aa m false 0 args,JR⟩ c (ae5 P rs K) (Aa m true 0 args++Aa m false 0 args)
def Ut{P:Program}{T:GH}{E:Vw}{g:Nat}{fn:Func}{c:Code}{p:WP}(m:List Nat)(JR:List (Nat×List (Nat×Value)))(hT:oo P T)(hE:sg P E)(hm:P.follows .mixedOrders=true)
 (hf:P.funcs[g]?=some fn)(hb:fn.body=some c)(adi:(fn.name== "runtime.NumGoroutine")=false)(hp:∀args K w,p args K w->args.length<=fn.ntmps/\body P T E fn.ntmps m JR fn.results.toList c args K w):aG P g p:=by
 refine⟨⟨fn,hf,adi,by rw[hb];rfl⟩,λargs K w h=>?_⟩;obtain⟨hlen,h⟩:=hp args K w h;apply calls_of_wp hf hb;have qX:(⟨args⟩++jH (fn.ntmps-(⟨args⟩:Array Value).size) undef:Array Value).size=fn.ntmps:=by
  simp;omega
 have zE:∀(b:Bool) t v,lk (Aa m b 0 args) t=some v->(⟨args⟩++jH (fn.ntmps-(⟨args⟩:Array Value).size) undef:Array Value)[t]?=some v:=λb t v ht=>by
  obtain⟨_,h2⟩:=Lm m b args 0 t v ht;simp only[Nat.sub_zero] at h2;have cj:t<args.length:=(av.1 h2).1;rw[Array.getElem?_append_left (by simpa using cj)];simpa using h2
 refine wp_mono (RK ⟨hT,hE,hm⟩ c _ _ ⟨⟨args⟩++jH (fn.ntmps-(⟨args⟩:Array Value).size) undef,[]⟩ w ⟨⟨qX,rfl,λt v ht=>?_⟩,⟨qX,rfl,λt v ht=>zE false t v ht⟩⟩ h) ?_
 ·rcases HO _ _ t v ht with h'|h'
  ·exact zE true t v h'
  ·exact zE false t v h'
 ·rintro ex a' w' ⟨⟨e',fC,hq⟩,hpn⟩;have fin:aaH P fn.results.toList K e' w'->a'.defers=[]/\∃v,(results fn a'.tmps).run P w'=.ok v w'/\∃u,(Ending.returned v)=.returned u/\K u w':=by
   intro hr;obtain⟨vs,this,hk⟩:=Cj fC.1 hr;refine⟨fC.1.defers,aaG vs,?_,_,rfl,hk⟩;have Jn:(fn.results.mapM (QU a'.tmps)).run P w'=.ok ⟨vs⟩ w':=by
    rw[<-Array.toArray_toList (xs:=fn.results),List.mapM_toArray,Sem.run_map,this];rfl
   rw[Nu,Sem.run_bind,Jn];simp only[Result.andThen_ok,Sem.run_pure]
   congr 1
   unfold aaG;cases vs with
   |nil=>rfl
   |cons v vs=>
    cases vs with
    |nil=>rfl
    |cons u vs=>simp
  cases ex with
  |normal=>exact fin hq
  |ret=>exact fin hq
  |exit i=>exact hq.elim
  |goto i=>exact hq.elim
  |panic c=>exact aQ rfl (hpn c)
  |outgrown=>exact hq.elim
end
end Go.Den
namespace Go.Sep
open Go.Den Go.RowKit
inductive Sv where
 |cells(cs:LV)
 |obj(o:Obj)
abbrev HP:=(Nat->Option Sv)->Prop
abbrev LH:=List HP
def view(w:World)(b:Nat):Option Sv:=
 match w.heap[b]? with
 |some (.cells c _ fz)=>if c.size<=fz.1\/fz.2=0 then some (.cells c.toList) else none
 |some o=>some (.obj o)
 |none=>none
def sep(A B:HP):HP:=λh=>∃h1 h2,(∀b,h1 b=none\/h2 b=none)/\(∀b,h b=(h1 b).or (h2 b))/\A h1/\B h2
def va:LH->HP
 |[]=>λ_=>True
 |A::L=>sep A (va L)
def pt(b:Nat)(cs:LV):HP:=λh=>h b=some (.cells cs)
def ob(b:Nat)(o:Obj):HP:=λh=>h b=some (.obj o)
def So{α:Type}(f:α->HP):HP:=λh=>∃x,f x h
def DQ(p:Prop)(A:HP):HP:=λh=>p/\A h
def St(W w:World)(L:LH):Prop:=Below W.heap.size W w/\∃h,va L h/\∀b cs,h b=some cs->W.heap.size<=b/\view w b=some cs
def Bd{A B:HP}{h:Nat->Option Sv}(x:sep A B h):sep B A h:=by
 obtain⟨h1,h2,hd,hu,ha,hb⟩:=x;refine⟨h2,h1,λb=>(hd b).symm,λb=>?_,hb,ha⟩;rw[hu b];rcases hd b with h|h<;>simp[h]
def y9{A B C:HP}{h:Nat->Option Sv}(x:sep (sep A B) C h):sep A (sep B C) h:=by
 obtain⟨nU,h3,hd,hu,⟨h1,h2,ZE,hu',ha,hb⟩,hc⟩:=x;refine⟨h1,λb=>(h2 b).or (h3 b),λb=>?_,λb=>?_,ha,h2,h3,λb=>?_,λb=>rfl,hb,hc⟩
 ·rcases ZE b with h|h
  ·exact .inl h
  ·rcases hd b with g|g
   ·rw[hu' b,h] at g;left;simpa using g
   ·right;simp[h,g]
 ·rw[hu b,hu' b];simp[Option.or_assoc]
 ·rcases hd b with g|g
  ·rw[hu' b] at g;simp at g;exact .inl g.2
  ·exact .inr g
def E1{A B C:HP}{h:Nat->Option Sv}(x:sep A (sep B C) h):sep (sep A B) C h:=
 Bd (y9 (Bd (y9 (Bd x))))
def E0{A B A' B':HP}{h:Nat->Option Sv}(x:sep A B h)(ha:∀g,A g->A' g)(hb:∀g,B g->B' g):sep A' B' h:=by
 obtain⟨h1,h2,hd,hu,a,b⟩:=x;exact⟨h1,h2,hd,hu,ha _ a,hb _ b⟩
def QL{L M:LH}(p:L.Perm M):∀h,va L h->va M h:=by
 induction p with
 |nil=>exact λh x=>x
 |cons A _ ih=>exact λh x=>E0 x (λ_ a=>a) ih
 |swap A B l=>exact λh x=>y9 (E0 (E1 x) (λ_ y=>Bd y) λ_ y=>y)
 |trans _ _ ih1 VH=>exact λh x=>VH h (ih1 h x)
def St.perm{W w:World}{L M:LH}(h:St W w L)(p:L.Perm M):St W w M:=
 let⟨hb,g,hs,hv⟩:=h;⟨hb,g,QL p g hs,hv⟩
def ta{α:Type}:∀{L:List α} {k:Nat} {A:α},L[k]?=some A->L.Perm (A::L.eraseIdx k)
 |[],k,A,h=>by simp at h
 |B::L,0,A,h=>by simp at h;subst h;simp
 |B::L,k+1,A,h=>by
  simp only[bT] at h;exact((ta h).cons B).trans (bX.swap _ _ _)
def set_perm{α:Type}:∀{L:List α} {k:Nat} {A B:α},L[k]?=some A->(B::L.eraseIdx k).Perm (L.set k B)
 |[],k,A,B,h=>by simp at h
 |C::L,0,A,B,h=>by simp
 |C::L,k+1,A,B,h=>by
  simp only[bT] at h;exact(bX.swap _ _ _).trans ((set_perm h).cons C)
def St.focus{W w:World}{L:LH}{k:Nat}{A:HP}(h:St W w L)(hk:L[k]?=some A):St W w (A::L.eraseIdx k):=h.perm (ta hk)
def St.rH{W w:World}{L:LH}{k:Nat}{A B:HP}(h:St W w (B::L.eraseIdx k))(hk:L[k]?=some A):St W w (L.set k B):=h.perm (set_perm hk)
def St.drop{W w:World}{A:HP}{L:LH}(h:St W w (A::L)):St W w L:=by
 obtain⟨hb,g,⟨h1,h2,hd,hu,ha,hl⟩,hv⟩:=h;refine⟨hb,h2,hl,λb cs MY=>hv b cs ?_⟩;rw[hu b];rcases hd b with h|h
 ·simp[h,MY]
 ·rw[h] at MY;cases MY
def St.mono{W w:World}{A B:HP}{L:LH}(h:St W w (A::L))(V2:∀g,A g->B g):St W w (B::L):=
 let⟨hb,g,hs,hv⟩:=h;⟨hb,g,E0 hs V2 λ_ y=>y,hv⟩
def St.ex{α:Type}{W w:World}{f:α->HP}{L:LH}(h:St W w (So f::L)):∃x,St W w (f x::L):=by
 obtain⟨hb,g,⟨h1,h2,hd,hu,⟨x,hx⟩,hl⟩,hv⟩:=h;exact⟨x,hb,g,⟨h1,h2,hd,hu,hx,hl⟩,hv⟩
def St.qR{α:Type}{W w:World}{f:α->HP}{L:LH}(x:α)(h:St W w (f x::L)):St W w (So f::L):=h.mono λ_ hx=>⟨x,hx⟩
def St.and{W w:World}{p:Prop}{A:HP}{L:LH}(h:St W w (DQ p A::L)):p/\St W w (A::L):=by
 obtain⟨hb,g,⟨h1,h2,hd,hu,⟨hp,hx⟩,hl⟩,hv⟩:=h;exact⟨hp,hb,g,⟨h1,h2,hd,hu,hx,hl⟩,hv⟩
def St.and_intro{W w:World}{p:Prop}{A:HP}{L:LH}(hp:p)(h:St W w (A::L)):St W w (DQ p A::L):=h.mono λ_ hx=>⟨hp,hx⟩
def St.split{W w:World}{A B:HP}{L:LH}(h:St W w (sep A B::L)):St W w (A::B::L):=
 let⟨hb,g,hs,hv⟩:=h;⟨hb,g,y9 hs,hv⟩
def St.join{W w:World}{A B:HP}{L:LH}(h:St W w (A::B::L)):St W w (sep A B::L):=
 let⟨hb,g,hs,hv⟩:=h;⟨hb,g,E1 hs,hv⟩
def St.below{W w:World}{L:LH}(h:St W w L):Below W.heap.size W w:=h.1
def A6{w:World}{b:Nat}{x:Sv}(h:view w b=some x):b<w.heap.size:=by
 unfold view at h;cases hb:w.heap[b]? with
 |none=>simp[hb] at h
 |some x=>exact(Array.getElem?_eq_some_iff.1 hb).1
def QA{w:World}{b o:Nat}{cs:LV}(h:view w b=some (.cells cs)):w.cell? ⟨b,o,none⟩=cs[o]?/\(o<cs.length->w.frozen? ⟨b,o,none⟩=false)/\b<w.heap.size:=by
 have cj:=A6 h;unfold view at h;cases hb:w.heap[b]? with
 |none=>simp[hb] at h
 |some x=>
  cases x<;>simp only[hb,reduceCtorEq,bE.injEq] at h
  rename_i c e fz;split at h
  ·rename_i hfz;simp only[bE.injEq,Sv.cells.injEq] at h;subst h;refine⟨by simp[World.cell?,hb],λho=>?_,cj⟩;simp only[World.frozen?,hb];obtain⟨lo,hi⟩:=fz;simp at hfz ho⊢;omega
  ·cases h
def SF{w:World}{b:Nat}{o:Obj}(h:view w b=some (.obj o)):w.heap[b]?=some o:=by
 unfold view at h;cases hb:w.heap[b]? with
 |none=>simp[hb] at h
 |some x=>
  cases x<;>simp only[hb,bE.injEq,Sv.obj.injEq] at h<;>first|(subst h;rfl)|(split at h<;>cases h)
def St.cell{W w:World}{L:LH}{k b o:Nat}{cs:LV}(h:St W w L)(hk:L[k]?=some (pt b cs)):
 w.cell? ⟨b,o,none⟩=cs[o]?/\(o<cs.length->w.frozen? ⟨b,o,none⟩=false)/\b<w.heap.size/\W.heap.size<=b:=by
 obtain⟨hb,g,⟨h1,h2,hd,hu,ha,hl⟩,hv⟩:=h.focus hk;have hg:g b=some (.cells cs):=by rw[hu b];simp only[pt] at ha;simp[ha]
 obtain⟨h3,h4⟩:=hv b _ hg;obtain⟨h5,h6,h7⟩:=QA (o:=o) h4;exact⟨h5,h6,h7,h3⟩
def St.obj{W w:World}{L:LH}{k b:Nat}{o:Obj}(h:St W w L)(hk:L[k]?=some (ob b o)):w.heap[b]?=some o/\W.heap.size<=b:=by
 obtain⟨hb,g,⟨h1,h2,hd,hu,ha,hl⟩,hv⟩:=h.focus hk;have hg:g b=some (.obj o):=by rw[hu b];simp only[ob] at ha;simp[ha]
 obtain⟨h3,h4⟩:=hv b _ hg;exact⟨SF h4,h3⟩
def A5{w:World}{b o:Nat}{cs:LV}{v:Value}(h:view w b=some (.cells cs)):view (w.setCell ⟨b,o,none⟩ v) b=some (.cells (cs.set o v)):=by
 unfold view at h⊢;cases hb:w.heap[b]? with
 |none=>simp[hb] at h
 |some x=>
  cases x<;>simp only[hb,reduceCtorEq,bE.injEq] at h
  rename_i c e fz;have:(w.setCell ⟨b,o,none⟩ v).heap[b]?=some (.cells (c.setIfInBounds o v) e fz):=by
   simp[World.setCell,Array.getElem?_modify,hb]
  simp only[this,Array.size_setIfInBounds];split at h
  ·rename_i hfz;simp only[bE.injEq,Sv.cells.injEq] at h;subst h;rw[ai hfz];simp
  ·cases h
def wW{w w':World}{b:Nat}(h:w'.heap[b]?=w.heap[b]?):view w' b=view w b:=by unfold view;rw[h]
def St.YW{W w w':World}{L:LH}{k b:Nat}{x x':Sv}(h:St W w L)(hk:L[k]?=some (λh=>h b=some x))(hb:Below W.heap.size W w')
 (Dh:view w' b=some x')(ho:∀j,j≠b->j<w.heap.size->w'.heap[j]?=w.heap[j]?):St W w' (L.set k (λh=>h b=some x')):=by
 refine St.rH (A:=λh=>h b=some x) ?_ hk;obtain⟨_,g,⟨h1,h2,hd,hu,ha,hl⟩,hv⟩:=h.focus hk;have iO:W.heap.size<=b:=(hv b x (by rw[hu b];simp[ha])).1;refine⟨hb,λj=>if j=b then some x' else g j,⟨λj=>if j=b then some x' else h1 j,h2,λj=>?_,λj=>?_,by simp,hl⟩,λj ds hj=>?_⟩
 ·by_cases e:j=b
  ·subst e;right;rcases hd j with h|h
   ·rw[h] at ha;cases ha
   ·exact h
  ·simpa [e] using hd j
 ·by_cases e:j=b
  ·subst e;simp
  ·simp[e,hu j]
 ·by_cases e:j=b
  ·subst e;simp at hj;subst hj;exact⟨iO,Dh⟩
  ·simp[e] at hj;obtain⟨h3,h4⟩:=hv j ds hj;have cj:j<w.heap.size:=A6 h4;exact⟨h3,by rw[wW (ho j e cj)];exact h4⟩
def St.bB{W w w':World}{L:LH}{k b:Nat}{cs vZ:LV}(h:St W w L)(hk:L[k]?=some (pt b cs))(hb:Below W.heap.size W w')
 (Dh:view w' b=some (.cells vZ))(ho:∀j,j≠b->j<w.heap.size->w'.heap[j]?=w.heap[j]?):St W w' (L.set k (pt b vZ)):=h.YW hk hb Dh ho
def St.set{W w:World}{L:LH}{k b o:Nat}{cs:LV}(v:Value)(h:St W w L)(hk:L[k]?=some (pt b cs)):St W (w.setCell ⟨b,o,none⟩ v) (L.set k (pt b (cs.set o v))):=by
 have hc:=h.cell (o:=o) hk;obtain⟨_,g,⟨h1,h2,hd,hu,ha,hl⟩,hv⟩:=h.focus hk;have hvw:=(hv b (.cells cs) (by rw[hu b];simp only[pt] at ha;simp[ha])).2;exact h.bB hk (h.1.setCell (p:=⟨b,o,none⟩) hc.2.2.2 v) (A5 hvw) (λj hj _=>Below.heap_setCell w ⟨b,o,none⟩ v j hj)
def M8{w:World}{cs:LV}{t:TypeId}:view (w.alloc (.cells ⟨cs⟩ t)) w.heap.size=some (.cells cs):=by
 have:(w.alloc (.cells ⟨cs⟩ t)).heap[w.heap.size]?=some (.cells ⟨cs⟩ t):=by
  show(w.heap.push (.cells ⟨cs⟩ t))[w.heap.size]?=_;rw[Array.getElem?_push_size]
 unfold view;rw[this];simp
def St.acT{W w:World}{L:LH}(h:St W w L)(o:Obj){x:Sv}(hx:view (w.alloc o) w.heap.size=some x):St W (w.alloc o) ((λh=>h w.heap.size=some x)::L):=by
 obtain⟨hb,g,hs,hv⟩:=h;have hle:=hb.size;have N6:g w.heap.size=none:=by
  cases hg:g w.heap.size with
  |none=>rfl
  |some ds=>exact aQ (A6 (hv _ _ hg).2) (by omega)
 refine⟨hb.alloc hle _,λj=>if j=w.heap.size then some x else g j,⟨λj=>if j=w.heap.size then some x else none,g,λj=>?_,λj=>?_,by simp,hs⟩,λj ds hj=>?_⟩
 ·by_cases e:j=w.heap.size
  ·subst e;exact .inr N6
  ·simp[e]
 ·by_cases e:j=w.heap.size
  ·subst e;simp
  ·simp[e]
 ·by_cases e:j=w.heap.size
  ·subst e;simp at hj;subst hj;exact⟨hle,hx⟩
  ·simp[e] at hj;obtain⟨h3,h4⟩:=hv j ds hj;exact⟨h3,by rw[wW (Below.heap_alloc w _ j (A6 h4))];exact h4⟩
def St.new{W w:World}{L:LH}(h:St W w L)(cs:LV)(t:TypeId):St W (w.alloc (.cells ⟨cs⟩ t)) (pt w.heap.size cs::L):=h.acT _ M8
def St.drew{W w:World}{L:LH}(h:St W w L):St W w.drew L:=
 let⟨hb,g,hs,hv⟩:=h;⟨hb.drew,g,hs,hv⟩
def St.tK{W w w':World}{L:LH}(h:St W w L)(hb:Below w.heap.size w w'):St W w' L:=by
 obtain⟨hB,g,hs,hv⟩:=h;refine⟨hB.trans (hb.mono hB.size),g,hs,λb cs hc=>?_⟩;obtain⟨h1,h2⟩:=hv b cs hc;exact⟨h1,by rw[wW (hb.block b (A6 h2))];exact h2⟩
def St.start(W:World):St W W []:=⟨Below.refl _ _,λ_=>none,trivial,λb cs h=>by cases h⟩
def mq(k n:Nat):LV->World->Nat:=λvs _=>match vs[k]? with|some (.int _ d)=>n-d.toNat|_=>0
def dn{n a b:Nat}(h:b<a/\b<n):n-((a:Nat):Int).toNat<n-((b:Nat):Int).toNat:=by omega
section
variable {w:World}
def YL(k:IntKind)(K:Int->WK)(n:Int)(w:World):xI k K (.int k n) w=K n w:=by
 simp[xI]
def Sy(K:Bool->WK)(b:Bool)(w:World):xB K (.b b) w=K b w:=by simp[xB]
def Sx(K:BA->WK)(s:BA)(w:World):xS K (.s s) w=K s w:=by simp[xS]
def YJ(K:OA->WK)(p:OA)(w:World):xP K (.p p) w=K p w:=by simp[xP]
def YK(K:OA->Nat->Nat->WK)(b:OA)(n c:Nat)(w:World):xL K (.l b n c) w=K b n c w:=
 propext ⟨λ⟨_,_,_,h,hk⟩=>by cases h;exact hk,λh=>⟨_,_,_,rfl,h⟩⟩
def xX(n:Nat)(K:LV->WK)(cs:LV)(w:World):xA n K (.agg ⟨cs⟩) w=(cs.length=n/\K cs w):=by
 simp[xA]
def YQ(K:WK)(w:World):x0 K (.tuple ⟨[]⟩) w=K w:=by simp[x0]
def YN(K:Value->Value->WK)(a b:Value)(w:World):x2 K (.tuple ⟨[a,b]⟩) w=K a b w:=
 propext ⟨λ⟨_,_,h,hk⟩=>by cases h;exact hk,λh=>⟨_,_,rfl,h⟩⟩
def YM(K:Value->Value->Value->WK)(a b c:Value)(w:World):x3 K (.tuple ⟨[a,b,c]⟩) w=K a b c w:=
 propext ⟨λ⟨_,_,_,h,hk⟩=>by cases h;exact hk,λh=>⟨_,_,_,rfl,h⟩⟩
def kZ(X Y:WK):br true X Y=X:=rfl
def dX(X Y:WK):br false X Y=Y:=rfl
def D7(a:Addr)(K:Addr->WK):nn (some a) K=K a:=rfl
def abK(p:Prop)(K:WK)(w:World):cu p K w=(p/\K w):=rfl
def gY(b o n:Nat):(⟨b,o,none⟩:Addr).add n=⟨b,o+n,none⟩:=by
 unfold Addr.add;split
 ·rename_i h;subst h;rfl
 ·rfl
def tJ{b:Bool}{X Y:WK}(h1:b=true->X w)(h2:b=false->Y w):br b X Y w:=by
 cases b with
 |true=>exact h1 rfl
 |false=>exact h2 rfl
def fQ{p:Prop}[Decidable p]{X Y:WK}(h1:p->X w)(h2: ¬p->Y w):br (decide p) X Y w:=
 tJ (λh=>h1 (aS h)) (λh=>h2 (bq h))
def Iv{x y:Int}{X Y:WK}(h1:x=y->X w)(h2:x≠y->Y w):br (x==y) X Y w:=
 tJ (λh=>h1 (by simpa using h)) (λh=>h2 (by simpa using h))
def uX{x y:Int}{X Y:WK}(h1:x≠y->X w)(h2:x=y->Y w):br (x !=y) X Y w:=
 tJ (λh=>h1 (by simpa using h)) (λh=>h2 (by simpa using h))
end
def nz:(∀(a:Addr)(K:Addr->WK),nn (some a) K=K a)/\(∀b o n:Nat,(⟨b,o,none⟩:Addr).add n=⟨b,o+n,none⟩)/\(∀n:Nat,0+n=n)/\(∀n:Nat,n+0=n)/\
 (∀(α:Type)(a:α),(some a).isNone=false)/\(∀α:Type,(none:Option α).isNone=true)/\(∀X Y:WK,br true X Y=X)/\(∀X Y:WK,br false X Y=Y)/\((!true)=false)/\((!false)=true)/\
 (∀(k:IntKind)(K:Int->WK)(n:Int)(w:World),xI k K (.int k n) w=K n w)/\(∀(K:Bool->WK)(b:Bool)(w:World),xB K (.b b) w=K b w)/\(∀(K:BA->WK)(s:BA)(w:World),xS K (.s s) w=K s w)/\
 (∀(K:OA->WK)(p:OA)(w:World),xP K (.p p) w=K p w)/\(∀(K:OA->Nat->Nat->WK)(b:OA)(n c:Nat)(w:World),xL K (.l b n c) w=K b n c w)/\
 (∀(K:WK)(w:World),x0 K (.tuple ⟨[]⟩) w=K w)/\(∀(K:Value->Value->WK)(a b:Value)(w:World),x2 K (.tuple ⟨[a,b]⟩) w=K a b w)/\(∀(K:Value->Value->Value->WK)(a b c:Value)(w:World),x3 K (.tuple ⟨[a,b,c]⟩) w=K a b c w)/\
 (∀(p:Prop)(K:WK)(w:World),cu p K w=(p/\K w))/\(∀p:Prop,(True/\p)=p)/\(∀p:Prop,(p/\True)=p)/\
 (∀(α:Type 1)(a b:α)(l:List α),(a::l).set 0 b=b::l)/\(∀(α:Type 1)(a b:α)(l:List α)(n:Nat),(a::l).set (n+1) b=a::l.set n b)/\(∀(α:Type 1)(a:α)(l:List α),(a::l).eraseIdx 0=l)/\(∀(α:Type 1)(a:α)(l:List α)(n:Nat),(a::l).eraseIdx (n+1)=a::l.eraseIdx n)/\
 (∀(α:Type)(a b:α)(l:List α),(a::l).set 0 b=b::l)/\(∀(α:Type)(a b:α)(l:List α)(n:Nat),(a::l).set (n+1) b=a::l.set n b)/\(∀(α:Type)(a:α)(l:List α),(a::l).eraseIdx 0=l)/\(∀(α:Type)(a:α)(l:List α)(n:Nat),(a::l).eraseIdx (n+1)=a::l.eraseIdx n):=
 ⟨D7,gY,aD,gK,λ_ _=>rfl,λ_=>rfl,kZ,dX,rfl,rfl,YL,Sy,Sx,YJ,YK,YQ,YN,YM,abK,λ_=>true_and _,λ_=>and_true _,λ_ _ _ _=>rfl,λ_ _ _ _ _=>rfl,λ_ _ _=>rfl,λ_ _ _ _=>rfl,λ_ _ _ _=>rfl,λ_ _ _ _ _=>rfl,λ_ _ _=>rfl,λ_ _ _ _=>rfl⟩
def bz:(∀(p:Prop) [Decidable p],(decide p=true)=p)/\(∀(p:Prop) [Decidable p],(decide p=false)= ¬p)/\(∀b:Bool,((!b)=true)=(b=false))/\(∀b:Bool,((!b)=false)=(b=true))/\((true=false)=False)/\((false=true)=False)/\
 (∀(a b:Int),((a==b)=true)=(a=b))/\(∀(a b:Int),((a==b)=false)= ¬a=b)/\(∀(a b:Int),((a !=b)=true)= ¬a=b)/\(∀(a b:Int),((a !=b)=false)=(a=b))/\(∀(α:Type)(a b:α),(a≠b)= ¬a=b)/\(∀p:Prop,(¬ ¬p)=p)/\((!true)=false)/\((!false)=true):=by
 refine⟨λp _=>by simp,λp _=>by simp,λb=>by cases b<;>simp,λb=>by cases b<;>simp,by simp,by simp,λa b=>by simp,λa b=>by simp,λa b=>by simp,λa b=>by simp,λ_ a b=>rfl,λp=>by simp,rfl,rfl⟩
section
variable {W w:World} {L:LH} {k:Nat}
def TV{a:Addr}{v:Value}{K:VK}(h:w.cell? a=some v)(hk:K v w):ld a K w:=⟨v,h,hk⟩
def cX{b o:Nat}{cs:LV}{v:Value}{K:VK}(h:St W w L)(hk:L[k]?=some (pt b cs))(hv:cs[o]?=some v)(hK:K v w):ld ⟨b,o,none⟩ K w:=
 ⟨v,by rw[(h.cell hk).1,hv],hK⟩
def oX{b o:Nat}{cs:LV}{v:Value}{K:WK}(h:St W w L)(hk:L[k]?=some (pt b cs))(ho:o<cs.length)(h1:v.oneCell'=true)
 (hK:∀w',St W w' (L.set k (pt b (cs.set o v)))->K w'):st ⟨b,o,none⟩ v K w:=by
 obtain⟨h2,h3,_⟩:=h.cell (o:=o) hk;exact⟨h1,⟨cs[o],by rw[h2];simp[ho]⟩,h3 ho,hK _ (h.set v hk)⟩
def je{cs:LV}{K:Nat->WK}(h:St W w L)(hK:∀r w',St W w' (pt r cs::L)->K r w'):mk cs K w:=λt=>hK _ _ (h.new cs t)
def mw{K:WK}(h:St W w L)(hK:∀w',St W w' L->K w'):tick K w:=hK _ h.drew
def wP{b o:Nat}{cs xs:LV}(h:St W w L)(hk:L[k]?=some (pt b cs))(hx:∀j v,xs[j]?=some v->cs[o+j]?=some v):yg w ⟨b,o,none⟩ xs:=λj v hj=>by
 rw[gY,(h.cell hk).1];exact hx j v hj
def PQ{b o:Nat}{cs xs:LV}{K:WK}(h:St W w L)(hk:L[k]?=some (pt b cs))(hx:∀j v,xs[j]?=some v->cs[o+j]?=some v)(hK:K w):kp ⟨b,o,none⟩ xs K w:=
 ⟨wP h hk hx,hK⟩
def kC{b o:Nat}{cs:LV}{v:Value}{K:WK}(h:St W w L)(hk:L[k]?=some (pt b cs))(hx:cs[o]?=some v)(hK:K w):kp ⟨b,o,none⟩ [v] K w:=
 PQ h hk (λj u hj=>by
  cases j with
  |zero=>simp at hj;subst hj;exact hx
  |succ j=>simp at hj) hK
def km{b o n:Nat}{cs xs:LV}{K:LV->WK}(h:St W w L)(hk:L[k]?=some (pt b cs))(hl:xs.length=n)(hx:∀j v,xs[j]?=some v->cs[o+j]?=some v)(hK:K xs w):aJ ⟨b,o,none⟩ n K w:=
 ⟨xs,hl,wP h hk hx,hK⟩
def over(cs:LV)(o:Nat)(xs:LV):LV:=cs.take o++xs++cs.drop (o+xs.length)
def K5{cs:LV}{o:Nat}{xs:LV}(h:o+xs.length<=cs.length):(over cs o xs).length=cs.length:=by
 simp[over];omega
def Br{cs:LV}{o:Nat}{xs:LV}(h:o+xs.length<=cs.length)(j:Nat):(over cs o xs)[j]?=if j<o then cs[j]? else if j<o+xs.length then xs[j-o]? else cs[j]?:=by
 unfold over;rw[aH];by_cases h1:j<o
 ·rw[ai h1,cO (by simp;omega),List.getElem?_take_of_lt h1]
 ·rw[af h1,iJ (by simp;omega)];have e:(cs.take o).length=o:=by simp;omega
  rw[e];by_cases h2:j<o+xs.length
  ·rw[ai h2,cO (by omega)]
  ·rw[af h2,iJ (by omega),lC]
   congr 1;omega
def TA{cs:LV}{o:Nat}{v:Value}{xs:LV}(h:o+(xs.length+1)<=cs.length):over (cs.set o v) (o+1) xs=over cs o (v::xs):=by
 apply oz;intro j;rw[Br (by simp;omega),Br (by simpa using h)];by_cases h1:j<o
 ·rw[ai (by omega),ai h1,OP (by omega)]
 ·by_cases h2:j=o
  ·subst h2;rw[ai (by omega),af (by omega),ai (by simp)];have:j<cs.length:=by omega
   simp[this]
  ·rw[af (by omega),af h1];by_cases h3:j<o+(xs.length+1)
   ·rw[ai (by omega),ai (by simpa using h3)];obtain⟨m,rfl⟩:∃m,j=o+1+m:=⟨j-(o+1),by omega⟩;rw[show o+1+m-o=m+1 from by omega,show o+1+m-(o+1)=m from by omega]
    rfl
   ·rw[af (by omega),af (by simpa using h3),OP (by omega)]
def nI{α:Type}:∀{L:List α} {k:Nat} {A:α},L[k]?=some A->L.set k A=L
 |[],k,A,h=>by simp at h
 |B::L,0,A,h=>by simp at h;subst h;rfl
 |B::L,k+1,A,h=>by simp only[bT] at h;simp only[lA,nI h]
def St.Af:∀(xs:LV) {w:World} {L:LH} {b:Nat}(o i:Nat) {cs:LV},St W w L->L[k]?=some (pt b cs)->o+i+xs.length<=cs.length->(∀v∈xs,v.oneCell'=true)->
 xU w ⟨b,o,none⟩ i xs/\St W (Den.Af w ⟨b,o,none⟩ i xs) (L.set k (pt b (over cs (o+i) xs)))
 |[],w,L,b,o,i,cs,h,hk,hl,h1=>by
  refine⟨⟨by simp,by simp⟩,?_⟩;have:over cs (o+i) []=cs:=by simp[over]
  rw[this,nI hk];exact h
 |v::xs,w,L,b,o,i,cs,h,hk,hl,h1=>by
  have AU:(L.set k (pt b (cs.set (o+i) v)))[k]?=some (pt b (cs.set (o+i) v)):=by
   have:=(av.1 hk).1;simp[this]
  have h2:=h.set (o:=o+i) v hk;obtain⟨hc,hs⟩:=St.Af xs o (i+1) h2 AU (by simp at hl⊢;omega) (λu hu=>h1 u (by simp[hu]));refine⟨⟨h1,λj hj=>?_⟩,?_⟩
  ·rw[gY];obtain⟨g1,g2,_⟩:=h.cell (o:=o+(i+j)) hk;simp only[aW] at hl hj;have cj:o+(i+j)<cs.length:=by omega
   exact⟨⟨cs[o+(i+j)],by rw[g1];simp[cj]⟩,g2 cj⟩
  ·simp only[Den.Af];rw[gY,jC] at *;have e:=TA (cs:=cs) (o:=o+i) (v:=v) (xs:=xs) (by simp at hl;omega);rw[show o+(i+1)=o+i+1 from by omega,e] at hs;exact hs
def kf{b o:Nat}{cs xs:LV}{K:WK}(h:St W w L)(hk:L[k]?=some (pt b cs))(hl:o+xs.length<=cs.length)(h1:∀v∈xs,v.oneCell'=true)
 (hK:∀w',St W w' (L.set k (pt b (over cs o xs)))->K w'):jU ⟨b,o,none⟩ xs K w:=by
 obtain⟨hc,hs⟩:=St.Af xs o 0 h hk (by omega) h1;exact⟨hc,hK _ hs⟩
end
def own(b:OA)(n c e:Nat)(xs:LV):HP:=λh=>
 xs.length=n* e/\((b=none/\n=0/\c=0)\/∃r sp,b=ah r/\n<=c/\sp.length=(c-n)* e/\pt r (xs++sp) h)
section
variable {W w:World} {L:LH} {k:Nat} {b:OA} {n c e:Nat} {xs:LV}
def St.push{A:HP}(h:St W w L)(ha:A λ_=>none):St W w (A::L):=by
 obtain⟨hb,g,hs,hv⟩:=h;exact⟨hb,g,⟨λ_=>none,g,λb=>.inl rfl,λb=>by simp,ha,hs⟩,hv⟩
def rM(e:Nat):own none 0 0 e [] λ_=>none:=⟨by simp,.inl ⟨rfl,rfl,rfl⟩⟩
def St.oI(h:St W w L)(hk:L[k]?=some (own b n c e xs)):xs.length=n* e/\
 ((b=none/\n=0/\c=0)\/∃r sp,b=ah r/\n<=c/\sp.length=(c-n)* e/\St W w (L.set k (pt r (xs++sp)))):=by
 obtain⟨hb,g,⟨h1,h2,hd,hu,⟨hl,ha⟩,hs⟩,hv⟩:=h.focus hk;refine⟨hl,ha.imp id ?_⟩;rintro⟨r,sp,qY,vd,B4,hp⟩;exact⟨r,sp,qY,vd,B4,St.rH (A:=own b n c e xs) ⟨hb,g,⟨h1,h2,hd,hu,hp,hs⟩,hv⟩ hk⟩
def kj{α:Type}{L:List α}{k:Nat}{A B:α}(hk:L[k]?=some A):(L.set k B)[k]?=some B:=by
 have:=(av.1 hk).1;simp[this]
def St.Cp{r:Nat}{sp:LV}(hk:k<L.length)(hl:xs.length=n* e)(vd:n<=c)(B4:sp.length=(c-n)* e)(h:St W w (L.set k (pt r (xs++sp)))):
 St W w (L.set k (own (ah r) n c e xs)):=by
 have hg:(L.set k (pt r (xs++sp)))[k]?=some (pt r (xs++sp)):=by simp[hk]
 have h2:=(h.focus hg).mono (B:=own (ah r) n c e xs) λg hp=>⟨hl,.inr ⟨r,sp,rfl,vd,B4,hp⟩⟩;have:=h2.rH hg;rwa[jC] at this
def St.HG{r:Nat}(h:St W w L)(hk:L[k]?=some (own (ah r) n c e xs))(o:Nat)(ho:o<xs.length):
 w.cell? ⟨r,o,none⟩=xs[o]?/\w.frozen? ⟨r,o,none⟩=false:=by
 obtain⟨hl,h0|⟨r',sp,hb,vd,B4,hs⟩⟩:=h.oI hk
 ·cases h0.1
 ·cases hb
  obtain⟨h1,h2,_⟩:=hs.cell (o:=o) (kj hk);exact⟨by rw[h1,cO ho],h2 (by simp;omega)⟩
def rR{i:Int}{K:Addr->WK}(h:St W w L)(hk:L[k]?=some (own b n c e xs))(hi:0<=i/\i<n)
 (hK:∀r,b=ah r->K ⟨r,i.toNat* e,none⟩ w):iY b n i e K w:=by
 obtain⟨hl,h0|⟨r,sp,hb,vd,B4,hs⟩⟩:=h.oI hk
 ·omega
 ·refine⟨_,hb,hi,?_⟩;rw[gY,aD];exact hK r hb
def Av{r o:Nat}{v:Value}{K:VK}(h:St W w L)(hk:L[k]?=some (own (ah r) n c e xs))(hv:xs[o]?=some v)(hK:K v w):ld ⟨r,o,none⟩ K w:=
 ⟨v,by rw[(h.HG hk o (av.1 hv).1).1,hv],hK⟩
def zw{r o:Nat}{ys:LV}(h:St W w L)(hk:L[k]?=some (own (ah r) n c e xs))(hx:∀j v,ys[j]?=some v->xs[o+j]?=some v):yg w ⟨r,o,none⟩ ys:=λj v hj=>by
 have:=hx j v hj;rw[gY,(h.HG hk _ (av.1 this).1).1,this]
def Ec{r o m:Nat}{ys:LV}{K:LV->WK}(h:St W w L)(hk:L[k]?=some (own (ah r) n c e xs))(hl:ys.length=m)(hx:∀j v,ys[j]?=some v->xs[o+j]?=some v)(hK:K ys w):aJ ⟨r,o,none⟩ m K w:=
 ⟨ys,hl,zw h hk hx,hK⟩
def Wn{r o:Nat}{ys:LV}{K:WK}(h:St W w L)(hk:L[k]?=some (own (ah r) n c e xs))(ho:o+ys.length<=xs.length)(h1:∀v∈ys,v.oneCell'=true)
 (hK:∀w',St W w' (L.set k (own (ah r) n c e (over xs o ys)))->K w'):jU ⟨r,o,none⟩ ys K w:=by
 obtain⟨hl,h0|⟨r',sp,hb,vd,B4,hs⟩⟩:=h.oI hk
 ·cases h0.1
 ·cases hb
  refine kf hs (kj hk) (by simp;omega) h1 λw' Si=>hK w' ?_;rw[jC] at Si;have e1:over (xs++sp) o ys=over xs o ys++sp:=by
   unfold over;rw[zJ (by omega),List.drop_append_of_le_length (by omega)];simp
  rw[e1] at Si;exact St.Cp ((av.1 hk).1) (by rw[K5 ho];exact hl) vd B4 Si
def Cd{r o:Nat}{v:Value}{K:WK}(h:St W w L)(hk:L[k]?=some (own (ah r) n c e xs))(ho:o<xs.length)(h1:v.oneCell'=true)
 (hK:∀w',St W w' (L.set k (own (ah r) n c e (xs.set o v)))->K w'):st ⟨r,o,none⟩ v K w:=by
 obtain⟨hl,h0|⟨r',sp,hb,vd,B4,hs⟩⟩:=h.oI hk
 ·cases h0.1
 ·cases hb
  refine oX hs (kj hk) (by simp;omega) h1 λw' Si=>hK w' ?_;rw[jC,List.set_append_left _ _ ho] at Si;exact St.Cp ((av.1 hk).1) (by simpa using hl) vd B4 Si
def Gr{r o m:Nat}{cs ys:LV}{k':Nat}(h:St W w L)(hk:L[k']?=some (pt r cs))(hl:ys.length=m* e)(hx:∀j v,ys[j]?=some v->cs[o+j]?=some v):Src w m e (some ⟨r,o,none⟩) ys:=
 ⟨hl,λa ha=>by cases ha;exact wP h hk hx⟩
def Qt{m c':Nat}{ys:LV}{b':OA}{k':Nat}(h:St W w L)(hk:L[k']?=some (own b' m c' e ys)):Src w m e b' ys/\(b'=none->m=0):=by
 obtain⟨hl,h0|⟨r',sp,hb,vd,B4,hs⟩⟩:=h.oI hk
 ·obtain⟨rfl,rfl,rfl⟩:=h0;exact⟨⟨hl,λa ha=>by cases ha⟩,λ_=>rfl⟩
 ·subst hb;refine⟨⟨hl,λa ha=>?_⟩,λhn=>by cases hn⟩;cases ha
  exact wP hs (kj hk) λj v hj=>by
   rw[aD,cO (av.1 hj).1];exact hj
def oA(z:LV)(m:Nat):(Builtin.zeroCells ⟨z⟩ m).toList.length=m* z.length:=by
 simp[Builtin.zeroCells]
def NQ(c n m e:Nat):(c-n)* e-m* e=(c-(n+m))* e:=by
 rw[<-Nat.sub_mul];congr 1;omega
def Mu{bytes m:Nat}{zero ys:LV}{K:OA->Nat->Nat->WK}(h:St W w L)(hk:L[k]?=some (own b n c e xs))(hy:ys.length=m* e)(hz:zero.length=e)
 (hbound:(n+m)* bytes<=140737488355328)(XA:n+m<=9223372036854775807)(h1:∀v∈ys,v.oneCell'=true)
 (hK:∀b' c' w',St W w' (L.set k (own b' (n+m) c' e (xs++ys)))->K b' (n+m) c' w'):Yu e bytes zero b n c m ys K w:=by
 have hkl:=(av.1 hk).1;obtain⟨hl,h0⟩:=h.oI hk;refine⟨λhle=>⟨λa ha=>?_,λhb=>?_⟩,λcj=>⟨hbound,by omega,xs,?_,?_,λc' t LO=>?_⟩⟩
 ·rcases h0 with h0|⟨r,sp,hb,vd,B4,hs⟩
  ·rw[h0.1] at ha;cases ha
  ·subst hb;cases ha
   rw[gY,aD];have Lx:n* e+0+ys.length<=(xs++sp).length:=by
    rw[au,hl,B4,hy,gK,<-mn,<-mn];exact iw e (by omega)
   obtain⟨hc,gI⟩:=St.Af ys (n* e) 0 hs (kj hk) Lx h1;refine⟨hc,hK _ _ _ ?_⟩;rw[jC,gK] at gI;have e1:over (xs++sp) (n* e) ys=(xs++ys)++sp.drop ys.length:=by
    unfold over;rw[<-hl,List.take_left' rfl,List.drop_append,fB (by omega)];simp
   rw[e1] at gI;refine St.Cp hkl (by rw[au,hl,hy,mn]) hle ?_ gI;rw[aR,B4,hy];exact NQ c n m e
 ·rcases h0 with h0|⟨r,sp,qY,vd,B4,hs⟩
  ·obtain⟨rfl,rfl,rfl⟩:=h0;have hm:m=0:=by omega
   subst hm;have hye:ys=[]:=List.eq_nil_of_length_eq_zero (by simpa using hy);have hxe:xs=[]:=List.eq_nil_of_length_eq_zero (by simpa using hl);subst hye hxe;apply hK _ _ _;rw[bO,nI hk];exact h
  ·rw[qY] at hb;cases hb
 ·rcases h0 with h0|⟨r,sp,hb,vd,B4,hs⟩
  ·obtain⟨rfl,rfl,rfl⟩:=h0;exact⟨hl,λa ha=>by cases ha⟩
  ·subst hb;refine⟨hl,λa ha=>?_⟩;cases ha
   exact wP hs (kj hk) λj v hj=>by
    rw[aD,cO (av.1 hj).1];exact hj
 ·intro hb;rcases h0 with h0|⟨r,sp,qY,_⟩
  ·exact h0.2.1
  ·rw[qY] at hb;cases hb
 ·apply hK _ _ _;have Xz:=(h.focus hk).drop.drew.new ((xs++ys)++(Builtin.zeroCells ⟨zero⟩ (c'-(n+m))).toList) t;rw[World.size_drew] at Xz;have afP:((xs++ys).toArray++Builtin.zeroCells ⟨zero⟩ (c'-(n+m)):Array Value)=⟨(xs++ys)++(Builtin.zeroCells ⟨zero⟩ (c'-(n+m))).toList⟩:=by
   apply uF;simp
  rw[afP];refine St.rH (A:=own b n c e xs) ?_ hk;exact Xz.mono λg hp=>⟨by rw[au,hl,hy,mn],.inr ⟨_,_,rfl,LO,by rw[oA,hz],hp⟩⟩
def uD{bytes m:Nat}{zero ys:LV}{b':OA}{K:OA->Nat->Nat->WK}(h:St W w L)(hk:L[k]?=some (own b n c e xs))(Ax:Src w m e b' ys)(qY:b'=none->m=0)(hz:zero.length=e)
 (hbound:(n+m)* bytes<=140737488355328)(XA:n+m<=9223372036854775807)(h1:∀v∈ys,v.oneCell'=true)
 (hK:∀b' c' w',St W w' (L.set k (own b' (n+m) c' e (xs++ys)))->K b' (n+m) c' w'):iN e bytes zero b n c b' m K w:=
 ⟨ys,Ax,qY,Mu h hk Ax.1 hz hbound XA h1 hK⟩
def IQ(s:BA):∀v∈strCells s,v.oneCell'=true:=by
 intro v hv;simp only[strCells,dF] at hv;obtain⟨x,_,rfl⟩:=hv
 rfl
def strCells_length(s:BA):(strCells s).length=s.size:=by simp[strCells]
def Gk{s:BA}{K:OA->Nat->Nat->WK}{xs:LV}(h:St W w L)(hk:L[k]?=some (own b n c 1 xs))(hbound:n+s.size<=140737488355328)
 (hK:∀b' c' w',St W w' (L.set k (own b' (n+s.size) c' 1 (xs++strCells s)))->K b' (n+s.size) c' w'):Gl b n c s K w:=
 Mu h hk (by rw[strCells_length];omega) rfl (by omega) (by omega) (IQ s) hK
def TP{bytes:Nat}{zero:LV}{len cap:Int}{K:OA->Nat->Nat->WK}(h:St W w L)(h0:0<=len/\len<=cap/\cap<=9223372036854775807/\cap* bytes<=281474976710656)
 (hK:∀r w',St W w' (own (some ⟨r,0,none⟩) len.toNat cap.toNat zero.length (Builtin.zeroCells ⟨zero⟩ len.toNat).toList::L)->K (some ⟨r,0,none⟩) len.toNat cap.toNat w'):Lh bytes zero len cap K w:=by
 refine⟨h0,λt=>hK _ _ ?_⟩;have Xz:=h.new (Builtin.zeroCells ⟨zero⟩ cap.toNat).toList t;refine St.mono Xz λg hp=>⟨oA _ _,.inr ⟨_,(Builtin.zeroCells ⟨zero⟩ (cap.toNat-len.toNat)).toList,rfl,by omega,oA _ _,?_⟩⟩;have uP:(Builtin.zeroCells ⟨zero⟩ cap.toNat).toList=(Builtin.zeroCells ⟨zero⟩ len.toNat).toList++(Builtin.zeroCells ⟨zero⟩ (cap.toNat-len.toNat)).toList:=by
  have key:∀p q,(Builtin.zeroCells ⟨zero⟩ (p+q)).toList=(Builtin.zeroCells ⟨zero⟩ p).toList++(Builtin.zeroCells ⟨zero⟩ q).toList:=by
   intro p q;simp only[Builtin.zeroCells,Array.toList_map,Array.toList_range];rw[mn,List.range_add,cU,um]
   congr 1
   apply mI;intro j _;simp only[Function.comp]
   congr 1
   rw[Nat.add_comm,Nat.add_mul_mod_self_right]
  rw[<-key];congr 2;omega
 rw[<-uP];exact hp
end
end Go.Sep
namespace Go.cH
open Go.Den
def fO(n:Nat):BA:=⟨(bj n 0).toArray⟩
def uG(n:Nat):(fO n).size=n:=by simp[fO,ByteArray.size]
structure aZ where
 safe:List BA
 later:List (Int×BA)
 ops:Int
 arm:Int
namespace aZ
def new(n:Int):aZ:=⟨bj (min2 (max2 n 0) 4096).toNat (fO 128),[],0,0⟩
def is(D:aZ)(i:Int):Prop:=0<=i/\i<D.safe.length
instance(D:aZ)(i:Int):Decidable (D.is i):=by unfold is;infer_instance
def tick(D:aZ):aZ:={D with ops:=aa.wrap (D.ops+1),arm:=if D.arm=0 then 0 else aa.wrap (D.arm-1)}
def vt(D:aZ):Bool:= !(D.arm==0)&&(aa.wrap (D.arm-1)==0)
def last(l:List (Int×BA))(i:Int):Option BA:=(l.reverse.find? λp=>p.1==i).map (·.2)
def now(D:aZ)(i:Int):BA:=(last D.later i).getD (D.safe.getD i.toNat .empty)
def read(D:aZ)(i:Int):BA×Int:=if D.is i then(D.now i,0) else(.empty,1)
def pad(s:BA):BA:=s++fO (128-s.size)
def write(D:aZ)(i:Int)(s:BA):aZ×Int:=
 if ¬D.is i\/128<s.size then(D,1) else if D.vt then(D.tick,8) else({D.tick with later:=D.later++[(i,pad s)]},0)
def put(safe:List BA)(p:Int×BA):List BA:=safe.set p.1.toNat p.2
def sync(D:aZ):aZ×Int:=if D.vt then(D.tick,8) else({D.tick with safe:=D.later.foldl put D.safe,later:=[]},0)
def bit(mask:Int)(k:Int):Bool:=de .u64 .and (shr .u64 mask (min2 k 63)) 1==1
def nM(mask torn c:Int)(safe:List BA)(k:Nat)(p:Int×BA):List BA:=
 if(k:Int)=torn then safe.set p.1.toNat (p.2.extract 0 c.toNat++(safe.getD p.1.toNat .empty).extract c.toNat (safe.getD p.1.toNat .empty).size)
 else if bit mask k then safe.set p.1.toNat p.2 else safe
def wJ(mask torn c:Int):Nat->List (Int×BA)->List BA->List BA
 |_,[],safe=>safe
 |k,p::r,safe=>wJ mask torn c (k+1) r (nM mask torn c safe k p)
def fM(D:aZ)(mask torn cut:Int):aZ:=
 {D with safe:=wJ mask torn (min2 (max2 cut 0) 128) 0 D.later D.safe,later:=[],arm:=0}
def tL(D:aZ)(n:Int):aZ:={D with arm:=max2 n 0}
structure Ok(D:aZ):Prop where
 safe:∀s∈D.safe,s.size=128
 later:∀p∈D.later,p.2.size=128/\0<=p.1/\p.1<D.safe.length
 oS:D.safe.length<=4096
 less:D.later.length<1099511627776
end aZ
end Go.cH
namespace Go.Prog
open Go.Den Go.RowKit
def E8(l:List UInt8):Nat->List UInt8
 |0=>[]
 |n+1=>l++E8 l n
def strings_Repeat(s:BA)(n:Int)(K:VK):WK:=λw=>
 (0<=n/\s.size* n.toNat<=140737488355328/\n<=9223372036854775807)/\∀w',Below w.heap.size w w'->K (.s ⟨(E8 s.data.toList n.toNat).toArray⟩) w'
def strings_Repeat.u:WP:=λargs K=>match args with|[.string s,.int .i64 n]=>strings_Repeat s n K|_=>no
end Go.Prog
namespace Go.Prog
open Go.Den
abbrev LI:=List Value->World->Prop
abbrev LM:=List Value->World->Nat
abbrev lp(a:LV)(B:LI->LM->Prop):WK:=λw=>∃I μ,I a w/\B I μ
abbrev ct(I:LI)(μ:LM)(b a:LV)(w:World):WK:=λv=>I b v/\μ b v<μ a w
abbrev bD(n:Nat)(a:Addr)(cs:LV)(X:WK):WK:=cu (cs.length=n) (jU a cs X)
abbrev Kf(n:Nat)(cs:LV)(F:Nat->WK):WK:=cu (cs.length=n/\True) (mk (cs++[]) F)
abbrev lI(a:Addr)(K:Int->WK):WK:=ld a (xI .i64 K)
abbrev lU(a:Addr)(K:Int->WK):WK:=ld a (xI .u64 K)
abbrev lB(a:Addr)(K:Int->WK):WK:=ld a (xI .u8 K)
abbrev lP(a:Addr)(K:OA->WK):WK:=ld a (xP K)
abbrev lL(a:Addr)(K:OA->Nat->Nat->WK):WK:=ld a (xL K)
abbrev lT(a:Addr)(K:Bool->WK):WK:=ld a (xB K)
abbrev lS(a:Addr)(K:ByteArray->WK):WK:=ld a (xS K)
abbrev aeS:LV:=[.int .u8 0,.int .u8 0,.int .u8 0,.int .u8 0,.int .u8 0,.int .u8 0,.int .u8 0,.int .u8 0,.int .u8 0,.int .u8 0,.int .u8 0,.int .u8 0,.int .u8 0,.int .u8 0,.int .u8 0,.int .u8 0]
abbrev OS:LV:=[.bool false,.int .u64 0,.int .u64 0,.int .u64 0,.int .u64 0,.int .u64 0,.int .u64 0,.int .u64 0,.int .u64 0,.int .u64 0,.int .u64 0,.int .i64 0,.int .i64 0,.int .i64 0,.int .i64 0]
abbrev A0:LV:=[.bool false,.int .u64 0,.int .u64 0,.int .u64 0,.int .u64 0,.int .u64 0,.int .u64 0,.int .u64 0,.int .u64 0,.int .u64 0,.int .u64 0,.int .i64 0,.int .i64 0,.int .i64 0,.int .i64 0,.int .u64 0,.int .u64 0,.int .u64 0,.int .u64 0,.int .u64 0,.int .u64 0,.int .u64 0,.int .u64 0,.int .u64 0,.int .u64 0,.int .i64 0,.int .i64 0,.int .i64 0,.int .i64 0,.int .i64 0,.int .i64 0]
abbrev yu:LV:=[.int .i64 0,.int .i64 0,.int .u64 0,.int .u64 0]
abbrev zi4:LV:=[.int .i64 0,.int .i64 0,.int .i64 0,.int .i64 0]
abbrev zi5:LV:=[.int .i64 0,.int .i64 0,.int .i64 0,.int .i64 0,.int .i64 0]
abbrev Et:LV:=[.int .i64 0,.string .empty,.int .u64 0,.int .i64 0,.int .i64 0,.int .i64 0]
abbrev kU:LV:=[.int .i64 0,.slice none 0 0,.slice none 0 0,.int .i64 0,.slice none 0 0,.int .u64 0,.int .u64 0,.int .i64 0,.int .i64 0,.bool false,.bool false,.bool false,.int .i64 0]
abbrev Ab:LV:=[.int .i64 0,.slice none 0 0,.slice none 0 0,.slice none 0 0]
abbrev acd:LV:=[.slice none 0 0,.slice none 0 0,.int .i64 0,.int .i64 0]
abbrev eK:LV:=[.int .u64 0,.int .u64 0,.int .u64 0,.int .u64 0,.int .u64 0,.int .u64 0,.int .u64 0,.int .u64 0,.int .u64 0,.int .u64 0,.int .i64 0,.int .i64 0,.int .i64 0,.int .i64 0]
abbrev oU:LV:=[.int .u64 0,.int .u64 0,.int .u64 0,.int .u64 0,.int .u64 0,.int .u64 0,.int .u64 0,.int .u64 0,.int .u64 0,.int .u64 0,.int .i64 0,.int .i64 0,.int .i64 0,.int .i64 0,.int .u64 0,.int .u64 0,.int .u64 0,.int .u64 0,.int .u64 0,.int .u64 0,.int .u64 0,.int .u64 0,.int .u64 0,.int .u64 0,.int .i64 0,.int .i64 0,.int .i64 0,.int .i64 0]
abbrev iD:LV:=[.int .u64 0,.int .u64 0,.int .u64 0,.int .u64 0,.int .u64 0,.int .u64 0,.int .u64 0,.int .u64 0,.int .u64 0,.int .u64 0,.int .i64 0,.int .i64 0,.int .i64 0,.int .i64 0,.int .i64 0,.int .i64 0]
abbrev cI:LV:=[.int .u64 0,.int .u64 0,.int .u64 0,.int .u64 0,.int .u64 0,.int .u64 0,.int .u64 0,.int .u64 0,.int .u64 0,.int .u64 0,.int .i64 0,.int .i64 0,.int .i64 0,.int .i64 0,.int .i64 0,.int .i64 0,.int .u64 0,.int .u64 0,.int .u64 0,.int .u64 0,.int .u64 0,.int .u64 0,.int .u64 0,.int .u64 0,.int .u64 0,.int .u64 0,.int .i64 0,.int .i64 0,.int .i64 0,.int .i64 0,.int .i64 0,.int .i64 0,.int .i64 0]
abbrev Es:LV:=[.int .u64 0,.int .u64 0,.int .i64 0,.int .i64 0,.bool false,.bool false,.bool false,.int .i64 0]
abbrev OR:LV:=[.int .u64 0,.int .u64 0,.int .i64 0,.int .u8 0]
def qM(K:VK):WK:=strings_Repeat (⟨#[0]⟩:BA) 128 (xS λa=>K (.s a))
def tv(n:Int)(K:VK):WK:=cu True (mk [.l none 0 0,.l none 0 0,.i 0,.i 0] λo=>(λq=>∃(e:LV->World->Prop)(k:LV->World->Nat),e [.p none,.p (some (⟨o,0,none⟩:Addr)),.i (min2 (max2 n 0) 4096),.i 0] q/\∀(d:OA)(a:Addr)(b:Int)(c:Int)(f:World),e [.p d,.p (some a),.i b,.i c] f->(br (decide (c<b)) (tick (ld (a.add 0) (xL λg h j=>qM (xS λr=>kp (a.add 0) [.l g h j] (cu (1=1/\True) (mk [.s r] λt=>kp (a.add 0) [.l g h j] (iN 1 16 [.s .empty] g h j (ah t) 1 λu v w=>st (a.add 0) (.l u v w) ((λm=>e [.p d,.p (some a),.i b,.i (aa.wrap (c+1))] m/\k [.p d,.p (some a),.i b,.i (aa.wrap (c+1))] m<k [.p d,.p (some a),.i b,.i c] f))))))))) (K (.p (some a)))) f))
def pv(a:OA)(c:Int)(K:VK):WK:=br (!(a.isNone)) (br (decide (c>=0)) (nn a λd=>ld (d.add 0) (xL λf e g=>K (.b (decide (c<(e:Int)))))) (K (.b false))) (K (.b false))
def mU(a:OA)(K:VK):WK:=nn a λc=>ld (c.add 2) (xI .i64 λd=>nn a λe=>st (e.add 2) (.i (aa.wrap (d+1))) (nn a λf=>ld (f.add 3) (xI .i64 λg=>br (g==0) (K (.b false)) (nn a λh=>ld (h.add 3) (xI .i64 λj=>nn a λk=>st (k.add 3) (.i (aa.wrap (j-1))) (nn a λl=>ld (l.add 3) (xI .i64 λm=>K (.b (m==0)))))))))
def fp.j1(K:VK)(a:OA)(b:BA)(h:Int)(j:Bool):WK:=br j (K (.i 1)) (mU a (xB λk=>br k (K (.i 8)) (tick (nn a λc=>ld (c.add 1) (xL λd e f=>qM (xS λm=>kp (c.add 1) [.l d e f] (mG m (some (b.size:Int)) none λg=>cu (((b.size+g.size:Nat):Int)<=9223372036854775807) (cu (1=1/\(1=1/\True)) (cu (2=2/\True) (mk [.i h,.s (b++g)] λn=>kp (c.add 1) [.l d e f] (iN 2 24 [.i 0,.s .empty] d e f (ah n) 1 λo p q=>nn a λr=>st (r.add 1) (.l o p q) (K (.i 0)))))))))))))
def fp(a:OA)(b:Int)(c:BA)(K:VK):WK:=br (a.isNone) (K (.i 2)) (pv a b (xB λd=>br (!d) (fp.j1 K a c b true) (fp.j1 K a c b (decide ((c.size:Int)>128)))))
def kk(b:OA)(e:Int)(K:VK):WK:=br (b.isNone) (K (.tuple ⟨[.s .empty,.i 2]⟩)) (pv b e (xB λk=>br (!k) (K (.tuple ⟨[.s .empty,.i 1]⟩)) (nn b λl=>ld (l.add 1) (xL λE m F=>(λn=>∃(f:LV->World->Prop)(h:LV->World->Nat),f [.s .empty,.i 0,.i (aa.wrap ((m:Int) -1))] n/\∀(c:BA)(d:Int)(a:Int)(g:World),f [.s c,.i d,.i a] g->(br (decide (a>=0)) (nn b λo=>ld (o.add 1) (xL λp q G=>iY p q a 2 λr=>ld (r.add 0) (xI .i64 λt=>br (t==e) (nn b λu=>ld (u.add 1) (xL λv w H=>iY v w a 2 λx=>ld (x.add 1) (xS λy=>K (.tuple ⟨[.s y,.i 0]⟩)))) ((λj=>f [.s c,.i d,.i (aa.wrap (a-1))] j/\h [.s c,.i d,.i (aa.wrap (a-1))] j<h [.s c,.i d,.i a] g))))) (nn b λz=>ld (z.add 0) (xL λA B I=>iY A B e 1 λC=>ld C (xS λD=>K (.tuple ⟨[.s D,.i 0]⟩))))) g)))))
def mV(g:OA)(v w x:Int)(K:VK):WK:=br (g.isNone) (K (.tuple ⟨[]⟩)) (nn g λy=>ld (y.add 1) (xL λz n A=>(λB=>∃(k:LV->World->Prop)(h:LV->World->Nat),k [.i (min2 (max2 x 0) 128),.l z n A,.i (n:Int),.i 0] B/\∀(b:Int)(c:OA)(d:Nat)(f:Nat)(e:Int)(a:Int)(m:World),k [.i b,.l c d f,.i e,.i a] m->(br (decide (a<e)) (iY c d a 2 λC=>aJ C 2 λo=>mk [.i 0,.s .empty] λj=>cu (o.length=2) (jU (⟨j,0,none⟩:Addr) o (br (a==w) (tick (nn g λD=>ld (D.add 0) (xL λE F sq=>ld ((⟨j,0,none⟩:Addr).add 0) (xI .i64 λG=>ld ((⟨j,0,none⟩:Addr).add 1) (xS λH=>mG H none (some b) λp=>nn g λI=>ld (I.add 0) (xL λJ M u6=>ld ((⟨j,0,none⟩:Addr).add 0) (xI .i64 λO=>iY J M O 1 λP=>ld P (xS λQ=>mG Q (some b) none λq=>cu (((p.size+q.size:Nat):Int)<=9223372036854775807) (iY E F G 1 λR=>st R (.s (p++q)) ((λr=>k [.i b,.l c d f,.i e,.i (aa.wrap (a+1))] r/\h [.i b,.l c d f,.i e,.i (aa.wrap (a+1))] r<h [.i b,.l c d f,.i e,.i a] m))))))))))) (cu ((0:Int)<=(min2 a 63)) (br ((de .u64 .and (shr .u64 v (min2 a 63)) 1)==1) (tick (nn g λS=>ld (S.add 0) (xL λT V GP=>ld ((⟨j,0,none⟩:Addr).add 0) (xI .i64 λW=>ld ((⟨j,0,none⟩:Addr).add 1) (xS λX=>iY T V W 1 λY=>st Y (.s X) ((λt=>k [.i b,.l c d f,.i e,.i (aa.wrap (a+1))] t/\h [.i b,.l c d f,.i e,.i (aa.wrap (a+1))] t<h [.i b,.l c d f,.i e,.i a] m))))))) ((λu=>k [.i b,.l c d f,.i e,.i (aa.wrap (a+1))] u/\h [.i b,.l c d f,.i e,.i (aa.wrap (a+1))] u<h [.i b,.l c d f,.i e,.i a] m))))))) (nn g λZ=>st (Z.add 1) (.l none 0 0) (nn g λa10=>st (a10.add 3) (.i 0) (K (.tuple ⟨[]⟩))))) m)))
def fE(a:OA)(K:VK):WK:=br (a.isNone) (K (.i 0)) (nn a λb=>ld (b.add 0) (xL λd c e=>K (.i (c:Int))))
def lM(b:OA)(K:VK):WK:=br (b.isNone) (K (.i 2)) (mU b (xB λq=>br q (K (.i 8)) (nn b λr=>ld (r.add 1) (xL λt m u=>(λv=>∃(h:LV->World->Prop)(n:LV->World->Nat),h [.i 0,.l t m u,.i (m:Int),.i 0] v/\∀(f:Int)(c:OA)(d:Nat)(g:Nat)(e:Int)(a:Int)(j:World),h [.i f,.l c d g,.i e,.i a] j->(br (decide (a<e)) (iY c d a 2 λw=>aJ w 2 λo=>mk [.i 0,.s .empty] λk=>cu (o.length=2) (jU (⟨k,0,none⟩:Addr) o (tick (nn b λx=>ld (x.add 0) (xL λy z E=>ld ((⟨k,0,none⟩:Addr).add 0) (xI .i64 λA=>ld ((⟨k,0,none⟩:Addr).add 1) (xS λB=>iY y z A 1 λC=>st C (.s B) ((λp=>h [.i f,.l c d g,.i e,.i (aa.wrap (a+1))] p/\n [.i f,.l c d g,.i e,.i (aa.wrap (a+1))] p<n [.i f,.l c d g,.i e,.i a] j))))))))) (nn b λD=>st (D.add 1) (.l none 0 0) (K (.i 0)))) j)))))
def oG(a:OA)(b:Int)(K:VK):WK:=br (!(a.isNone)) (nn a λc=>st (c.add 3) (.i (max2 b 0)) (K (.tuple ⟨[]⟩))) (K (.tuple ⟨[]⟩))
def mF(a:Int)(K:VK):WK:=cu ((104:Int)≠0) (cu ((104:Int)≠0) (K (.i (max2 (aa.wrap ((aa.wrap ((max2 a 0).tdiv (104:Int)))+(min2 ((max2 a 0).tmod (104:Int)) 1))) 1))))
def uJ(c:LV)(K:VK):WK:=mk c λa=>ld ((⟨a,0,none⟩:Addr).add 0) (xI .i64 λd=>br (decide (d>=1)) (ld ((⟨a,0,none⟩:Addr).add 0) (xI .i64 λe=>br (decide (e<=1152921504606846976)) (ld ((⟨a,0,none⟩:Addr).add 1) (xI .i64 λf=>br (decide (f>=0)) (ld ((⟨a,0,none⟩:Addr).add 1) (xI .i64 λg=>br (decide (g<4096)) (ld ((⟨a,0,none⟩:Addr).add 2) (xS λh=>K (.b (decide ((h.size:Int)<=104))))) (K (.b false)))) (K (.b false)))) (K (.b false)))) (K (.b false)))
def bu(e:OA)(n o:Int)(K:VK):WK:=(λp=>∃(c:LV->World->Prop)(f:LV->World->Nat),c [.i (min2 (max2 n 1) 8),.i 0] p/\∀(b:Int)(a:Int)(d:World),c [.i b,.i a] d->(br (decide (a<b)) (tick (nn e λg=>ld (g.add 0) (xL λh j k=>cu ((0:Int)<=(aa.wrap (8* a))) (cu (1=1/\True) (mk [.int .u8 (IntKind.u8.wrap (shr .i64 o (aa.wrap (8* a))))] λq=>kp (g.add 0) [.l h j k] (iN 1 1 [.int .u8 0] h j k (ah q) 1 λr s t=>nn e λu=>st (u.add 0) (.l r s t) ((λm=>c [.i b,.i (aa.wrap (a+1))] m/\f [.i b,.i (aa.wrap (a+1))] m<f [.i b,.i a] d)))))))) (K (.tuple ⟨[]⟩))) d)
def lY(a:OA)(b:BA)(K:VK):WK:=nn a λc=>ld (c.add 0) (xL λd e f=>Gl d e f b λg h i=>nn a λj=>st (j.add 0) (.l g h i) (K (.tuple ⟨[]⟩)))
def rX(a:Int)(K:VK):WK:=cu ((0:Int)<=8) (cu ((0:Int)<=16) (cu ((0:Int)<=24) (cu (1=1/\(1=1/\(1=1/\(1=1/\True)))) (mk [.int .u8 (IntKind.u8.wrap a),.int .u8 (IntKind.u8.wrap (shr .u32 a 8)),.int .u8 (IntKind.u8.wrap (shr .u32 a 16)),.int .u8 (IntKind.u8.wrap (shr .u32 a 24))] λb=>U2 (ah b) 4 λc=>K (.s c)))))
def uW(F:Int)(v:BA)(K:VK):WK:=(λG=>∃(w:LV->World->Prop)(B:LV->World->Nat),w [.int .u32 0,.int .u32 (de .u32 .xor 4294967295 F),.i (v.size:Int),.i 0] G/\∀(x:Int)(d:Int)(h:Int)(a:Int)(y:World),w [.int .u32 x,.int .u32 d,.i h,.i a] y->(br (decide (a<h)) (zQ v a λk=>(λH=>∃(z:LV->World->Prop)(C:LV->World->Nat),z [.int .u32 x,.int .u32 (de .u32 .xor d (IntKind.u32.wrap (k.toNat:Int))),.i a,.i h,.i a,.b (decide (a<h)),.i a,.int .u32 d,.s v,.i a,.int .u8 (k.toNat:Int),.int .u32 (IntKind.u32.wrap (k.toNat:Int)),.int .u32 (de .u32 .xor d (IntKind.u32.wrap (k.toNat:Int))),.i 0] H/\∀(e:Int)(c:Int)(l:Int)(f:Int)(g:Int)(m:Bool)(n:Int)(o:Int)(p:BA)(q:Int)(r:Int)(t:Int)(u:Int)(j:Int)(A:World),z [.int .u32 e,.int .u32 c,.i l,.i f,.i g,.b m,.i n,.int .u32 o,.s p,.i q,.int .u8 r,.int .u32 t,.int .u32 u,.i j] A->(br (decide (j<8)) (cu ((0:Int)<=1) ((λD=>z [.int .u32 e,.int .u32 (de .u32 .xor (shr .u32 c 1) (de .u32 .and 2197175160 (IntKind.u32.wrap (0-(de .u32 .and c 1))))),.i l,.i f,.i g,.b m,.i n,.int .u32 o,.s p,.i q,.int .u8 r,.int .u32 t,.int .u32 u,.i (aa.wrap (j+1))] D/\C [.int .u32 e,.int .u32 (de .u32 .xor (shr .u32 c 1) (de .u32 .and 2197175160 (IntKind.u32.wrap (0-(de .u32 .and c 1))))),.i l,.i f,.i g,.b m,.i n,.int .u32 o,.s p,.i q,.int .u8 r,.int .u32 t,.int .u32 u,.i (aa.wrap (j+1))] D<C [.int .u32 e,.int .u32 c,.i l,.i f,.i g,.b m,.i n,.int .u32 o,.s p,.i q,.int .u8 r,.int .u32 t,.int .u32 u,.i j] A))) ((λE=>w [.int .u32 e,.int .u32 c,.i f,.i (aa.wrap (g+1))] E/\B [.int .u32 e,.int .u32 c,.i f,.i (aa.wrap (g+1))] E<B [.int .u32 x,.int .u32 d,.i h,.i a] y))) A)) (K (.int .u32 (de .u32 .xor 4294967295 d)))) y)
def dG(a:OA)(K:VK):WK:=nn a λb=>ld (b.add 0) (xL λc d f=>U2 c d λe=>K (.s e))
def ru(c:LV)(K:VK):WK:=mk c λb=>aJ (⟨b,0,none⟩:Addr) 3 λd=>uJ d (xB λe=>br (!e) (K (.tuple ⟨[.s .empty,.i 1]⟩)) (cu True (mk [.l none 0 0] λa=>ld ((⟨b,0,none⟩:Addr).add 0) (xI .i64 λf=>bu (some (⟨a,0,none⟩:Addr)) 8 f (x0 (ld ((⟨b,0,none⟩:Addr).add 1) (xI .i64 λg=>bu (some (⟨a,0,none⟩:Addr)) 2 g (x0 (ld ((⟨b,0,none⟩:Addr).add 2) (xS λh=>bu (some (⟨a,0,none⟩:Addr)) 2 (h.size:Int) (x0 (ld ((⟨b,0,none⟩:Addr).add 2) (xS λj=>lY (some (⟨a,0,none⟩:Addr)) j (x0 (ld ((⟨b,0,none⟩:Addr).add 2) (xS λk=>strings_Repeat (⟨#[0]⟩:BA) (aa.wrap (104-(k.size:Int))) (xS λm=>lY (some (⟨a,0,none⟩:Addr)) m (x0 (dG (some (⟨a,0,none⟩:Addr)) (xS λn=>uW 0 n (xI .u32 λo=>rX o (xS λp=>lY (some (⟨a,0,none⟩:Addr)) p (x0 (ld ((⟨b,0,none⟩:Addr).add 0) (xI .i64 λq=>bu (some (⟨a,0,none⟩:Addr)) 8 q (x0 (dG (some (⟨a,0,none⟩:Addr)) (xS λr=>K (.tuple ⟨[.s r,.i 0]⟩)))))))))))))))))))))))))))))
def lJ.j1(K:VK)(h:BA)(r g j:Int)(k:OA)(t:Bool):WK:=br t (K (.i 1)) (mF (h.size:Int) (xI .i64 λu=>br (decide (u>(aa.wrap (r-g)))) (K (.i 3)) ((λv=>∃(d:LV->World->Prop)(e:LV->World->Nat),d [.s h,.i 0,.i 0] v/\∀(a:BA)(c:Int)(b:Int)(f:World),d [.s a,.i c,.i b] f->(br (b==0) (mG a none (some (min2 (a.size:Int) 104)) λw=>cu (1=1/\(1=1/\(1=1/\True))) (ru [.i j,.i b,.s w] (x2 λx y=>(xS λz=>(xI .i64 λE=>fp k (aa.wrap (g+b)) z (xI .i64 λl=>br (l !=0) (K (.i l)) (mG a (some (min2 (a.size:Int) 104)) none λm=>(λn=>d [.s m,.i c,.i (aa.wrap (b+1))] n/\e [.s m,.i c,.i (aa.wrap (b+1))] n<e [.s a,.i c,.i b] f)))) y) x))) (br (decide ((a.size:Int)>0)) (mG a none (some (min2 (a.size:Int) 104)) λA=>cu (1=1/\(1=1/\(1=1/\True))) (ru [.i j,.i b,.s A] (x2 λB C=>(xS λD=>(xI .i64 λF=>fp k (aa.wrap (g+b)) D (xI .i64 λo=>br (o !=0) (K (.i o)) (mG a (some (min2 (a.size:Int) 104)) none λp=>(λq=>d [.s p,.i c,.i (aa.wrap (b+1))] q/\e [.s p,.i c,.i (aa.wrap (b+1))] q<e [.s a,.i c,.i b] f)))) C) B))) (K (.i 0)))) f))))
def lJ(d:OA)(a b c:Int)(e:BA)(K:VK):WK:=br (decide (c<1)) (lJ.j1 K e b a c d true) (br (decide (c>1152921504606846976)) (lJ.j1 K e b a c d true) (br (decide (a<0)) (lJ.j1 K e b a c d true) (fE d (xI .i64 λf=>br (decide (b>f)) (lJ.j1 K e b a c d true) (lJ.j1 K e b a c d (decide (a>b)))))))
def oB(a:BA)(K:VK):WK:=cu (1=1/\True) (mk [.s a,.b false] λc=>K (.p (some (⟨c,0,none⟩:Addr))))
def fo.j1(K:VK)(a:OA)(b:Int):WK:=nn a λc=>ld (c.add 0) (xS λd=>mG d none (some b) λe=>nn a λf=>ld (f.add 0) (xS λg=>mG g (some b) none λh=>nn a λi=>st (i.add 0) (.s h) (K (.s e))))
def fo(a:OA)(c:Int)(K:VK):WK:=br (a.isNone) (K (.s .empty)) (nn a λd=>ld (d.add 1) (xB λe=>br e (nn a λf=>st (f.add 1) (.b true) (nn a λg=>ld (g.add 1) (xB λh=>br h (K (.s .empty)) (fo.j1 K a c)))) (br (decide (c<0)) (nn a λi=>st (i.add 1) (.b true) (nn a λj=>ld (j.add 1) (xB λk=>br k (K (.s .empty)) (fo.j1 K a c)))) (nn a λl=>ld (l.add 0) (xS λm=>nn a λn=>st (n.add 1) (.b (decide (c>(m.size:Int)))) (nn a λo=>ld (o.add 1) (xB λp=>br p (K (.s .empty)) (fo.j1 K a c))))))))
def aL(p:OA)(q:Int)(K:VK):WK:=fo p (min2 (max2 q 1) 8) (xS λh=>s2b h λr s=>(λt=>∃(j:LV->World->Prop)(m:LV->World->Nat),j [.i 0,.i 0,.l (ah r) h.size s,.i (h.size:Int),.i 0] t/\∀(f:Int)(b:Int)(c:OA)(d:Nat)(g:Nat)(e:Int)(a:Int)(k:World),j [.i f,.i b,.l c d g,.i e,.i a] k->(br (decide (a<e)) (iY c d a 1 λu=>ld u (xI .u8 λn=>cu ((0:Int)<=(aa.wrap (8* a))) ((λo=>j [.i f,.i (de .i64 .or b (shl .i64 (aa.wrap n) (aa.wrap (8* a)))),.l c d g,.i e,.i (aa.wrap (a+1))] o/\m [.i f,.i (de .i64 .or b (shl .i64 (aa.wrap n) (aa.wrap (8* a)))),.l c d g,.i e,.i (aa.wrap (a+1))] o<m [.i f,.i b,.l c d g,.i e,.i a] k)))) (K (.i b))) k))
def aL.u:WP|[.pointer a,.int .i64 b],K=>aL a b K|_,_=>no
def xd(h:BA)(K:VK):WK:=mk [.i 0,.i 0] λo=>mk [.i 0,.i 0] λq=>tick (mG h none (some 8) λr=>mG h (some (aa.wrap ((h.size:Int) -8))) none λt=>cu (1=1/\(1=1/\True)) ((λu=>∃(f:LV->World->Prop)(e:LV->World->Nat),f [.p (some (⟨o,0,none⟩:Addr)),.p (some (⟨q,0,none⟩:Addr)),.agg ⟨[.s r,.s t]⟩,.i 0] u/\∀(b:Addr)(c:Addr)(d:LV)(a:Int)(g:World),f [.p (some b),.p (some c),.agg ⟨d⟩,.i a] g->(br (decide (a<2)) (Dg d 2 a (xS λv=>oB v (xP λw=>aL w 8 (xI .i64 λj=>br (decide (j>=1)) (br (decide (j<=1152921504606846976)) (cu ((0:Int)<=a/\a<2) (st (c.add (a.toNat* 1)) (.i j) ((λk=>f [.p (some b),.p (some c),.agg ⟨d⟩,.i (aa.wrap (a+1))] k/\e [.p (some b),.p (some c),.agg ⟨d⟩,.i (aa.wrap (a+1))] k<e [.p (some b),.p (some c),.agg ⟨d⟩,.i a] g)))) ((λl=>f [.p (some b),.p (some c),.agg ⟨d⟩,.i (aa.wrap (a+1))] l/\e [.p (some b),.p (some c),.agg ⟨d⟩,.i (aa.wrap (a+1))] l<e [.p (some b),.p (some c),.agg ⟨d⟩,.i a] g))) ((λm=>f [.p (some b),.p (some c),.agg ⟨d⟩,.i (aa.wrap (a+1))] m/\e [.p (some b),.p (some c),.agg ⟨d⟩,.i (aa.wrap (a+1))] m<e [.p (some b),.p (some c),.agg ⟨d⟩,.i a] g)))))) (aJ c 2 λn=>cu (n.length=2) (jU b n (aJ b 2 λx=>K (.agg ⟨x⟩))))) g)))
def oC(h:OA)(K:VK):WK:=fE h (xI .i64 λo=>(λp=>∃(e:LV->World->Prop)(j:LV->World->Nat),e [.i 0,.i 0,.i o,.i 0] p/\∀(d:Int)(b:Int)(c:Int)(a:Int)(f:World),e [.i d,.i b,.i c,.i a] f->(br (decide (a<c)) (kk h a (x2 λq r=>(xS λs=>(xI .i64 λt=>xd s (xA 2 λk=>mk [.i 0,.i 0] λg=>cu (k.length=2) (jU (⟨g,0,none⟩:Addr) k (cu ((0:Int)<=0/\(0:Int)<2) (ld ((⟨g,0,none⟩:Addr).add ((0:Int).toNat* 1)) (xI .i64 λl=>cu ((0:Int)<=1/\(1:Int)<2) (ld ((⟨g,0,none⟩:Addr).add ((1:Int).toNat* 1)) (xI .i64 λm=>(λn=>e [.i d,.i (max2 (max2 b l) m),.i c,.i (aa.wrap (a+1))] n/\j [.i d,.i (max2 (max2 b l) m),.i c,.i (aa.wrap (a+1))] n<j [.i d,.i b,.i c,.i a] f))))))))) r) q)) (K (.i b))) f))
end Go.Prog
namespace Go.Sep
open Go.Den Go.RowKit Go.Prog Go.cH
def kn(l:List (Int×BA)):LV:=l.flatMap λp=>[.i p.1,.s p.2]
def uO(l:List (Int×BA))(i:Nat)(p:Int×BA)(h:l[i]?=some p):
 (kn l)[i* 2]?=some (.i p.1)/\(kn l)[i* 2+1]?=some (.s p.2):=by
 induction l generalizing i with
 |nil=>simp at h
 |cons q l ih=>
  cases i with
  |zero=>simp at h;subst h;exact⟨rfl,rfl⟩
  |succ i=>
   simp only[bT] at h;have:=ih i h;rw[show(i+1)* 2=(i* 2)+2 from by omega,show i* 2+2+1=(i* 2+1)+2 from by omega];exact this
def sL(sb lb:OA)(n sc m lc:Nat)(ops arm:Int):LV:=[.l sb n sc,.l lb m lc,.i ops,.i arm]
def gT(d:Nat)(D:aZ):HP:=So λ(v:(OA×Nat)×(OA×Nat))=>
 sep (pt d (sL v.1.1 v.2.1 D.safe.length v.1.2 D.later.length v.2.2 D.ops D.arm))
  (sep (own v.1.1 D.safe.length v.1.2 1 (D.safe.map .string)) (own v.2.1 D.later.length v.2.2 2 (kn D.later)))
section
variable {W w:World} {L:LH} {k d:Nat} {D:aZ}
def sK(h:St W w L)(hk:L[k]?=some (gT d D)):∃sb sc lb lc,
 St W w (pt d (sL sb lb D.safe.length sc D.later.length lc D.ops D.arm)::own sb D.safe.length sc 1 (D.safe.map .string)::own lb D.later.length lc 2 (kn D.later)::L.eraseIdx k):=by
 obtain⟨⟨⟨sb,sc⟩,lb,lc⟩,h1⟩:=(h.focus hk).ex;have h2:=h1.split;have h3:=(h2.perm (bX.swap _ _ _)).split;refine⟨sb,sc,lb,lc,h3.perm ?_⟩;exact(bX.cons _ (bX.swap _ _ _)).trans (bX.swap _ _ _)
def ri{sb lb:OA}{sc lc n m:Nat}{safe:List BA}{later:List (Int×BA)}{ops arm:Int}{A:HP}(hk:L[k]?=some A)(hn:n=safe.length)(hm:m=later.length)
 (h:St W w (pt d (sL sb lb n sc m lc ops arm)::own sb n sc 1 (safe.map .string)::own lb m lc 2 (kn later)::L.eraseIdx k)):St W w (L.set k (gT d ⟨safe,later,ops,arm⟩)):=by
 subst hn hm;refine St.rH (A:=A) ?_ hk;refine St.qR ((sb,sc),(lb,lc)) (St.join ?_);refine St.perm ?_ (bX.swap _ _ _);exact St.join (h.perm ((bX.swap _ _ _).trans (bX.cons _ (bX.swap _ _ _))))
def Ip(h:St W w L)(hk:L[k]?=some (gT d D)):∃sb sc lb lc,w.cell? ⟨d,0,none⟩=some (.l sb D.safe.length sc)/\w.cell? ⟨d,1,none⟩=some (.l lb D.later.length lc)/\
 w.cell? ⟨d,2,none⟩=some (.i D.ops)/\w.cell? ⟨d,3,none⟩=some (.i D.arm):=by
 obtain⟨sb,sc,lb,lc,hs⟩:=sK h hk;exact⟨sb,sc,lb,lc,(hs.cell (k:=0) rfl).1,(hs.cell (k:=0) rfl).1,(hs.cell (k:=0) rfl).1,(hs.cell (k:=0) rfl).1⟩
def B1{i:Int}{K:VK}(h:St W w L)(hk:L[k]?=some (gT d D))(hK:K (.b (decide (D.is i))) w):pv (ah d) i K w:=by
 obtain⟨sb,sc,lb,lc,h0,_⟩:=Ip h hk;unfold pv;simp only[nz,ae,ag];refine fQ (λhi=>TV h0 ?_) (λhi=>?_)
 ·simp only[nz,ae,ag];have e:decide (i<(D.safe.length:Int))=decide (D.is i):=decide_eq_decide.2 (by unfold aZ.is;omega);rw[e];exact hK
 ·have e:false=decide (D.is i):=(aq (by unfold aZ.is;omega)).symm;rw[e];exact hK
def yh{K:VK}(h:St W w L)(hk:L[k]?=some (gT d D))(hK:∀w',St W w' (L.set k (gT d D.tick))->K (.b D.vt) w'):mU (ah d) K w:=by
 obtain⟨sb,sc,lb,lc,hs⟩:=sK h hk;unfold mU;simp only[nz,ae,ag];apply cX (k:=0) hs rfl rfl;simp only[nz,ae,ag];refine oX (k:=0) hs rfl (aI rfl) rfl λw hs=>?_;simp only[nz,ae,ag] at hs;apply cX (k:=0) hs rfl rfl;simp only[nz,ae,ag];refine Iv (λh0=>?_) (λh0=>?_)
 ·have e:D.tick=⟨D.safe,D.later,aa.wrap (D.ops+1),D.arm⟩:=by simp[aZ.tick,h0]
  have e2:D.vt=false:=by simp[aZ.vt,h0]
  rw[e,e2] at hK;exact hK _ (ri hk rfl rfl hs)
 ·apply cX (k:=0) hs rfl rfl;simp only[nz,ae,ag];refine oX (k:=0) hs rfl (aI rfl) rfl λw hs=>?_;simp only[nz,ae,ag] at hs;apply cX (k:=0) hs rfl rfl;simp only[nz,ae,ag];have e:D.tick=⟨D.safe,D.later,aa.wrap (D.ops+1),aa.wrap (D.arm-1)⟩:=by simp[aZ.tick,h0]
  have e2:D.vt=(aa.wrap (D.arm-1)==0):=by simp[aZ.vt,h0]
  rw[e,e2] at hK;exact hK _ (ri hk rfl rfl hs)
end
section
variable {W w:World} {L:LH} {k d:Nat} {D:aZ}
def E7(c:UInt8):∀n,E8 [c] n=bj n c
 |0=>rfl
 |n+1=>by simp[E8,E7 c n,List.replicate_succ]
def Dz{s:BA}{n:Int}{K:VK}(h:St W w L)(h0:0<=n)(h1:s.size* n.toNat<=140737488355328)(h2:n<=9223372036854775807)(hK:∀w',St W w' L->K (.s ⟨(E8 s.data.toList n.toNat).toArray⟩) w'):strings_Repeat s n K w:=
 ⟨⟨h0,h1,h2⟩,λw' hb=>hK w' (h.tK hb)⟩
def Gi{K:VK}(h:St W w L)(hK:∀w',St W w' L->K (.s (fO 128)) w'):qM K w:=by
 unfold qM;refine Dz h (by decide) (by decide) (by decide) λw h=>?_;simp only[nz,ae,ag];have e:(⟨(E8 (⟨#[0]⟩:BA).data.toList (128:Int).toNat).toArray⟩:BA)=fO 128:=by
  show(⟨(E8 [0] 128).toArray⟩:BA)=_;rw[E7];rfl
 rw[e];exact hK w h
def nT{K:VK}(h:St W w L)(hk:L[k]?=some (gT d D))(hK:K (.i (D.safe.length:Int)) w):fE (ah d) K w:=by
 obtain⟨sb,sc,lb,lc,h0,h1,h2,h3⟩:=Ip h hk;unfold fE;simp only[nz,ae,ag];apply TV h0;simp only[nz,ae,ag];exact hK
def G'{n:Int}{K:VK}(h:St W w L)(hk:L[k]?=some (gT d D))(hK:∀w',St W w' (L.set k (gT d (D.tL n)))->K (.tuple ⟨[]⟩) w'):oG (ah d) n K w:=by
 obtain⟨sb,sc,lb,lc,hs⟩:=sK h hk;unfold oG;simp only[nz,ae,ag];refine oX (k:=0) hs rfl (aI rfl) rfl λw hs=>?_;simp only[nz,ae,ag] at hs;exact hK _ (ri hk rfl rfl hs)
def tq(s:BA)(i j:Nat):(s.extract i j).size=min j s.size-i:=by simp[ByteArray.size_extract]
def GJ(n i:Nat):(fO n).extract i n=fO (n-i):=by
 apply ByteArray.ext;simp[fO,ByteArray.data_extract]
def AP{i:Int}{s:BA}{b:Bool}{K:VK}(h:St W w L)(hk:L[k]?=some (gT d D))(iE:D.Ok)(hb:b=decide (128<s.size))(hi:D.is i)
 (hK:∀w',St W w' (L.set k (gT d (D.write i s).1))->K (.i (D.write i s).2) w'):fp.j1 K (ah d) s i b w:=by
 unfold fp.j1;refine tJ (λh1=>?_) (λh1=>?_)
 ·have h2:128<s.size:=by rw[hb] at h1;exact aS h1
  have e:D.write i s=(D,1):=by simp[aZ.write,h2]
  rw[e] at hK;apply hK w;rw[nI hk];exact h
 ·have h2: ¬128<s.size:=by rw[hb] at h1;exact bq h1
  refine yh h hk λw h=>?_;simp only[nz,ae,ag];refine tJ (λh3=>?_) (λh3=>?_)
  ·have e:D.write i s=(D.tick,8):=by simp[aZ.write,h2,hi,h3]
   rw[e] at hK;exact hK w h
  ·have e:D.write i s=({D.tick with later:=D.later++[(i,aZ.pad s)]},0):=by simp[aZ.write,h2,hi,h3]
   rw[e] at hK;refine mw h λw h=>?_;have ux:(L.set k (gT d D.tick))[k]?=some (gT d D.tick):=kj hk;obtain⟨sb,sc,lb,lc,hs⟩:=sK h ux;apply cX (k:=0) hs rfl rfl;simp only[nz,ae,ag];refine Gi hs λw hs=>?_;simp only[nz,ae,ag];apply kC (k:=0) hs rfl rfl;have qX:(fO 128).size=128:=uG 128;unfold mG;simp only[nz,ae,ag];refine⟨⟨by omega,by omega⟩,?_⟩;have e3:(fO 128).extract (s.size:Int).toNat (fO 128).size=fO (128-s.size):=by rw[qX,ak];exact GJ 128 s.size
   rw[e3];refine⟨by rw[uG];omega,?_⟩;refine je hs λr w hs=>?_;apply kC (k:=1) hs rfl rfl;have hl:D.later.length<1099511627776:=iE.less;refine uD (k:=3) (n:=D.tick.later.length) (ys:=[.i i,.s (aZ.pad s)]) hs rfl (Gr (k':=0) hs rfl rfl λj v hj=>by rw[aD];exact hj) (by simp) rfl
    (by show(D.later.length+1)* 24<=_;omega) (by show D.later.length+1<=_;omega) (by simp[Value.oneCell']) λb' c' w hs=>?_
   simp only[nz,ae,ag] at hs⊢;refine oX (k:=1) hs rfl (aI rfl) rfl λw hs=>?_;simp only[nz,ae,ag] at hs;apply hK w;have e4:kn D.tick.later++[.i i,.s (aZ.pad s)]=kn (D.later++[(i,aZ.pad s)]):=by simp[kn,aZ.tick]
   rw[e4] at hs;have h5:=ri (sb:=sb) (sc:=sc) (lb:=b') (lc:=c') (safe:=D.safe) (ops:=D.tick.ops) (arm:=D.tick.arm) ux rfl (by simp[aZ.tick]) hs.drop;rw[jC] at h5;exact h5
def DS{i:Int}{s:BA}{K:VK}(h:St W w L)(hk:L[k]?=some (gT d D))(iE:D.Ok)
 (hK:∀w',St W w' (L.set k (gT d (D.write i s).1))->K (.i (D.write i s).2) w'):fp (ah d) i s K w:=by
 unfold fp;simp only[nz,ae,ag];apply B1 h hk;simp only[nz,ae,ag];by_cases hi:D.is i
 ·rw[aw hi];simp only[nz,ae,ag];refine AP h hk iE ?_ hi hK;exact decide_eq_decide.2 (by omega)
 ·rw[aq hi];simp only[nz,ae,ag];have e:D.write i s=(D,1):=by simp[aZ.write,hi]
  rw[e] at hK;unfold fp.j1;simp only[nz,ae,ag];apply hK w;rw[nI hk];exact h
end
def aX{n:Int}(h: -9223372036854775808<=n/\n<=9223372036854775807):aa.wrap n=n:=by
 simp only[IntKind.wrap,IntKind.bits,IntKind.signed,dI,decide_eq_true_eq,Int.reducePow,Nat.reduceSub,ge_iff_le];split<;>omega
def m9(i:Nat)(h:i<9223372036854775807:=by omega):aa.wrap ((i:Int)+1)=((i+1:Nat):Int):=by
 rw[aX (by omega)];omega
def tw(l m:List (Int×BA))(i:Int):aZ.last (l++m) i=(aZ.last m i).or (aZ.last l i):=by
 unfold aZ.last;rw[List.reverse_append,List.find?_append];cases List.find? (λp=>p.1==i) m.reverse<;>simp
def zl(p:Int×BA)(l:List (Int×BA))(i:Int):aZ.last (p::l) i=(aZ.last l i).or (if p.1==i then some p.2 else none):=by
 rw[show p::l=[p]++l from rfl,tw]
 congr 1
 simp only[aZ.last,List.reverse_singleton,List.find?_cons,List.find?_nil];cases h:(p.1==i)<;>simp
section
variable {W w:World} {L:LH} {k d:Nat} {D:aZ}
def drop_cons{α:Type}{l:List α}{j:Nat}{p:α}(h:l[j]?=some p):l.drop j=p::l.drop (j+1):=by
 obtain⟨hj,he⟩:=av.1 h;rw[<-he];exact gZ hj
def sh{i:Int}{K:VK}(h:St W w L)(hk:L[k]?=some (gT d D))(iE:D.Ok)(hK:K (.tuple ⟨[.s (D.read i).1,.i (D.read i).2]⟩) w):kk (ah d) i K w:=by
 obtain⟨sb,sc,lb,lc,hs⟩:=sK h hk;have hl:=iE.less;unfold kk;simp only[nz,ae,ag];apply B1 h hk;simp only[nz,ae,ag];by_cases hi:D.is i
 case neg=>
  rw[aq hi];simp only[nz,ae,ag];have e:D.read i=(.empty,1):=by simp[aZ.read,hi]
  rw[e] at hK;exact hK
 rw[aw hi];simp only[nz,ae,ag];have e:D.read i=(D.now i,0):=by simp[aZ.read,hi]
 rw[e] at hK;apply cX (k:=0) hs rfl rfl;simp only[nz,ae,ag];refine⟨λus w'=>∃j:Nat,us=[.s .empty,.i 0,.i ((j:Int) -1)]/\w'=w/\j<=D.later.length/\aZ.last (D.later.drop j) i=none,
  λus _=>match us with|[_,_,.int _ n]=>(n+1).toNat|_=>0,⟨D.later.length,by rw[aX (by omega)],rfl,aF _,by simp[aZ.last]⟩,?_⟩
 rintro s1 n2 n3 w2 ⟨j,he,rfl,hj,hn⟩;cases he
 refine fQ (λh0=>?_) (λh0=>?_)
 ·obtain⟨m,rfl⟩:∃m,j=m+1:=⟨j-1,by omega⟩;have cj:m<D.later.length:=by omega
  obtain⟨p,hp⟩:∃p,D.later[m]?=some p:=⟨D.later[m],by simp[cj]⟩;obtain⟨Xy,Jk⟩:=uO _ _ _ hp;have em:((m+1:Nat):Int) -1=(m:Int):=by omega
  rw[em];apply cX (k:=0) hs rfl rfl;simp only[nz,ae,ag];refine rR (k:=2) hs rfl (by omega) λr hr=>?_;subst hr;simp only[nz,ae,ag];refine Av (k:=2) hs rfl (v:=.i p.1) (by rw[ak];exact Xy) ?_;simp only[nz,ae,ag];refine Iv (λh1=>?_) (λh1=>?_)
  ·apply cX (k:=0) hs rfl rfl;simp only[nz,ae,ag];refine rR (k:=2) hs rfl (by omega) λr' hr'=>?_;cases hr'
   simp only[nz,ae,ag];refine Av (k:=2) hs rfl (v:=.s p.2) (by rw[ak];exact Jk) ?_;simp only[nz,ae,ag];have:D.now i=p.2:=by
    unfold aZ.now;have uP:D.later=D.later.take m++(p::D.later.drop (m+1)):=by rw[<-drop_cons hp,dk]
    rw[uP,tw,zl,hn];simp[h1]
   rw[this] at hK;exact hK
  ·have e5:aa.wrap ((m:Int) -1)=(m:Int) -1:=aX (by omega);rw[e5];refine⟨⟨m,rfl,rfl,by omega,?_⟩,by omega⟩;rw[drop_cons hp,zl,hn];simp[h1]
 ·have hj0:j=0:=by omega
  subst hj0;have H5:aZ.last D.later i=none:=hn;apply cX (k:=0) hs rfl rfl;simp only[nz,ae,ag];refine rR (k:=1) hs rfl hi λr hr=>?_;subst hr;have cj:i.toNat<D.safe.length:=by have:=hi.1;have:=hi.2;omega
  apply Av (k:=1) hs rfl (v:=.s (D.safe[i.toNat])) (by simp[cj]);simp only[nz,ae,ag];have:D.now i=D.safe[i.toNat]:=by
   unfold aZ.now;rw[H5];simp[cj]
  rw[this] at hK;exact hK
def Vq{n:Int}{K:VK}(h:St W w L)(hK:∀d w',St W w' (gT d (aZ.new n)::L)->K (.p (ah d)) w'):tv n K w:=by
 unfold tv;simp only[nz,ae,ag];refine je h λd w hs=>?_;have hn:0<=min2 (max2 n 0) 4096/\min2 (max2 n 0) 4096<=4096:=by unfold min2 max2;split<;>split<;>omega
 refine⟨λus w'=>∃(j:Nat)(b:OA)(c:Nat),us=[.p none,.p (ah d),.i (min2 (max2 n 0) 4096),.i j]/\(j:Int)<=min2 (max2 n 0) 4096/\
  St W w' (pt d [.l b j c,.l none 0 0,.i 0,.i 0]::own b j c 1 ((bj j (fO 128)).map .string)::L),
  λus _=>match us with|[_,_,.int _ m,.int _ j]=>(m-j).toNat|_=>0,⟨0,none,0,rfl,hn.1,?_⟩,?_⟩
 ·refine(hs.push (rM 1)).perm (bX.swap _ _ _)
 ·rintro p1 a1 n2 n3 w2 ⟨j,b,c,he,hj,hs⟩;cases he
  refine fQ (λh0=>?_) (λh0=>?_)
  ·refine mw hs λw hs=>?_;simp only[nz,ae,ag];apply cX (k:=0) hs rfl rfl;simp only[nz,ae,ag];refine Gi hs λw hs=>?_;simp only[nz,ae,ag];apply kC (k:=0) hs rfl rfl;simp only[nz,ae,ag];refine je hs λr w hs=>?_;apply kC (k:=1) hs rfl rfl;refine uD (k:=2) (ys:=[.s (fO 128)]) hs rfl (Gr (k':=0) hs rfl rfl λj v hj=>by rw[aD];exact hj) (by simp) rfl (by omega) (by omega) (by simp[Value.oneCell']) λb' c' w hs=>?_;simp only[nz,ae,ag] at hs⊢;refine oX (k:=1) hs rfl (aI rfl) rfl λw hs=>?_;simp only[nz,ae,ag] at hs;have e5:=m9 j;rw[e5];refine⟨⟨j+1,b',c',rfl,by omega,?_⟩,by omega⟩;have e6:(bj j (fO 128)).map Value.string++[.s (fO 128)]=(bj (j+1) (fO 128)).map .s:=by
    rw[List.replicate_succ'];simp
   rw[e6] at hs;exact hs.drop
  ·have Jp:(j:Int)=min2 (max2 n 0) 4096:=by omega
   have hj3:j=(min2 (max2 n 0) 4096).toNat:=by omega
   have gI:St W w2 (pt d [.l b j c,.l none 0 0,.i 0,.i 0]::own b j c 1 ((bj j (fO 128)).map .string)::own none 0 0 2 (kn [])::L):=
    (hs.push (A:=own none 0 0 2 (kn [])) (rM 2)).perm ((bX.swap _ _ _).trans (bX.cons _ (bX.swap _ _ _)))
   have:=ri (L:=gT d (aZ.new n)::L) (k:=0) (A:=gT d (aZ.new n)) (safe:=bj j (fO 128)) (later:=[]) (ops:=0) (arm:=0) rfl (by simp) rfl gI;apply hK d w2;have e7:aZ.new n=⟨bj j (fO 128),[],0,0⟩:=by unfold aZ.new;rw[<-hj3]
   rw[e7];exact this
end
def oM(l:List (Int×BA))(safe:List BA):(l.foldl aZ.put safe).length=safe.length:=by
 induction l generalizing safe with
 |nil=>rfl
 |cons p l ih=>rw[List.foldl_cons,ih];simp[aZ.put]
def GL{α:Type}{l:List α}{j:Nat}{p:α}(h:l[j]?=some p):l.take (j+1)=l.take j++[p]:=by
 obtain⟨hj,he⟩:=av.1 h;rw[qA hj,he]
section
variable {W w:World} {L:LH} {k d:Nat} {D:aZ}
def u4{K:VK}(h:St W w L)(hk:L[k]?=some (gT d D))(iE:D.Ok)(hK:∀w',St W w' (L.set k (gT d D.sync.1))->K (.i D.sync.2) w'):lM (ah d) K w:=by
 have hl:=iE.less;unfold lM;simp only[nz,ae,ag];refine yh h hk λw h=>?_;simp only[nz,ae,ag];refine tJ (λhf=>?_) (λhf=>?_)
 ·have e:D.sync=(D.tick,8):=by simp[aZ.sync,hf]
  rw[e] at hK;exact hK w h
 have e:D.sync=({D.tick with safe:=D.later.foldl aZ.put D.safe,later:=[]},0):=by simp[aZ.sync,hf]
 rw[e] at hK;have ux:(L.set k (gT d D.tick))[k]?=some (gT d D.tick):=kj hk;obtain⟨sb,sc,lb,lc,hs⟩:=sK h ux;apply cX (k:=0) hs rfl rfl;simp only[nz,ae,ag];refine⟨λus w'=>∃j:Nat,us=[.i 0,.l lb D.later.length lc,.i D.later.length,.i j]/\j<=D.later.length/\
    St W w' (pt d (sL sb lb D.safe.length sc D.later.length lc D.tick.ops D.tick.arm)::own sb D.safe.length sc 1 (((D.later.take j).foldl aZ.put D.safe).map .string)::own lb D.later.length lc 2 (kn D.later)::(L.set k (gT d D.tick)).eraseIdx k),
  λus _=>match us with|[_,_,_,.int _ j]=>D.later.length-j.toNat|_=>0,⟨0,rfl,aE _,hs⟩,?_⟩
 rintro n1 jJ iX jV n2 n3 w2 ⟨j,he,hj,hs⟩;cases he
 refine fQ (λh0=>?_) (λh0=>?_)
 ·have cj:j<D.later.length:=by omega
  obtain⟨p,hp⟩:∃p,D.later[j]?=some p:=⟨D.later[j],by simp[cj]⟩;obtain⟨Xy,Jk⟩:=uO _ _ _ hp;obtain⟨T5,hpa,hpb⟩:=iE.later p (cn hp);refine rR (k:=2) hs rfl (by omega) λr hr=>?_;subst hr;refine Ec (k:=2) (ys:=[.i p.1,.s p.2]) hs rfl rfl (λi v hi=>?_) ?_
  ·rw[ak]
   match i,hi with
   |0,hi=>simp at hi;subst hi;exact Xy
   |1,hi=>simp at hi;subst hi;exact Jk
  refine je hs λr1 w hs=>?_;simp only[nz,ae,ag];refine⟨rfl,kf (k:=0) hs rfl (aI rfl) (by simp[Value.oneCell']) λw hs=>?_⟩;simp only[nz,ae,ag] at hs;refine mw hs λw hs=>?_;apply cX (k:=1) hs rfl rfl;simp only[nz,ae,ag];apply cX (k:=0) hs rfl rfl;simp only[nz,ae,ag];apply cX (k:=0) hs rfl rfl;simp only[nz,ae,ag];refine rR (k:=2) hs rfl ⟨hpa,hpb⟩ λr hr=>?_;subst hr;refine Cd (k:=2) hs rfl (by rw[bY,oM];omega) rfl λw hs=>?_;simp only[nz,ae,ag] at hs;have e5:=m9 j;rw[e5];refine⟨⟨j+1,rfl,by omega,?_⟩,by omega⟩;have e6:(((D.later.take j).foldl aZ.put D.safe).map Value.string).set (p.1.toNat* 1) (.s p.2)=((D.later.take (j+1)).foldl aZ.put D.safe).map .s:=by
   rw[GL hp,List.foldl_append,mm];simp[aZ.put,List.map_set]
  rw[e6] at hs;exact hs.drop
 ·have Jp:j=D.later.length:=by omega
  subst Jp;refine oX (k:=0) hs rfl (aI rfl) rfl λw hs=>?_;simp only[nz,ae,ag] at hs;apply hK w;rw[aV] at hs;have vY:=(hs.perm ((bX.cons _ (bX.swap _ _ _)).trans (bX.swap _ _ _))).drop.push (rM 2);have yt:=vY.perm ((bX.swap _ _ _).trans (bX.cons _ (bX.swap _ _ _)));have h5:=ri (sb:=sb) (sc:=sc) (lb:=none) (lc:=0) (safe:=D.later.foldl aZ.put D.safe) (later:=[]) (ops:=D.tick.ops) (arm:=D.tick.arm) ux (oM _ _).symm rfl yt;rw[jC] at h5;exact h5
def F7(mask torn c:Int)(safe:List BA)(k:Nat)(p:Int×BA):(aZ.nM mask torn c safe k p).length=safe.length:=by
 unfold aZ.nM;split
 ·simp
 ·split<;>simp
def eV(mask torn c:Int)(safe:List BA)(later:List (Int×BA)):Nat->List BA
 |0=>safe
 |j+1=>match later[j]? with
  |some p=>aZ.nM mask torn c (eV mask torn c safe later j) j p
  |none=>eV mask torn c safe later j
def jz(mask torn c:Int)(safe:List BA)(later:List (Int×BA)):∀j,(eV mask torn c safe later j).length=safe.length
 |0=>rfl
 |j+1=>by
  simp only[eV];cases later[j]? with
  |none=>exact jz mask torn c safe later j
  |some p=>simp only[];rw[F7];exact jz mask torn c safe later j
def xK(mask torn c:Int)(later:List (Int×BA))(safe:List BA):∀(n j:Nat),j+n=later.length->
 aZ.wJ mask torn c j (later.drop j) (eV mask torn c safe later j)=eV mask torn c safe later later.length
 |0,j,h=>by
  have:j=later.length:=by omega
  subst this;simp[aZ.wJ]
 |n+1,j,h=>by
  have cj:j<later.length:=by omega
  rw[gZ cj];simp only[aZ.wJ];have:=xK mask torn c later safe n (j+1) (by omega);simp only[eV,aj cj] at this;exact this
def DT{mask torn cut:Int}{K:VK}(h:St W w L)(hk:L[k]?=some (gT d D))(iE:D.Ok)(hK:∀w',St W w' (L.set k (gT d (D.fM mask torn cut)))->K (.tuple ⟨[]⟩) w'):
 mV (ah d) mask torn cut K w:=by
 have hl:=iE.less;have hc:0<=min2 (max2 cut 0) 128/\min2 (max2 cut 0) 128<=128:=by unfold min2 max2;split<;>split<;>omega
 have hcr:D.fM mask torn cut=⟨eV mask torn (min2 (max2 cut 0) 128) D.safe D.later D.later.length,[],D.ops,0⟩:=by
  unfold aZ.fM;have:=xK mask torn (min2 (max2 cut 0) 128) D.later D.safe D.later.length 0 (by omega);simp only[iK,eV] at this;rw[this]
 rw[hcr] at hK;obtain⟨sb,sc,lb,lc,hs⟩:=sK h hk;unfold mV;generalize min2 (max2 cut 0) 128=c at *;simp only[nz,ae,ag];apply cX (k:=0) hs rfl rfl;simp only[nz,ae,ag];refine⟨λus w'=>∃j:Nat,us=[.i c,.l lb D.later.length lc,.i D.later.length,.i j]/\j<=D.later.length/\
    St W w' (pt d (sL sb lb D.safe.length sc D.later.length lc D.ops D.arm)::own sb D.safe.length sc 1 ((eV mask torn c D.safe D.later j).map .string)::own lb D.later.length lc 2 (kn D.later)::L.eraseIdx k)/\
    (∀s∈eV mask torn c D.safe D.later j,s.size=128),
  λus _=>match us with|[_,_,_,.int _ j]=>D.later.length-j.toNat|_=>0,⟨0,rfl,aE _,hs,iE.safe⟩,?_⟩
 rintro n4 jJ iX jV n5 n6 w2 ⟨j,he,hj,hs,CC⟩;cases he
 refine fQ (λh0=>?_) (λh0=>?_)
 ·have cj:j<D.later.length:=by omega
  obtain⟨p,hp⟩:∃p,D.later[j]?=some p:=⟨D.later[j],by simp[cj]⟩;obtain⟨Xy,Jk⟩:=uO _ _ _ hp;obtain⟨T5,hpa,hpb⟩:=iE.later p (cn hp);have BG:p.1.toNat<(eV mask torn c D.safe D.later j).length:=by rw[jz];omega
  have e5:=m9 j;have gA:eV mask torn c D.safe D.later (j+1)=aZ.nM mask torn c (eV mask torn c D.safe D.later j) j p:=by
   simp only[eV,hp]
  have adJ:∀s∈eV mask torn c D.safe D.later (j+1),s.size=128:=by
   rw[gA];intro s hs;unfold aZ.nM at hs;split at hs
   ·rcases fm hs with hs|hs
    ·exact CC s hs
    ·rw[hs];have:=CC _ (cb BG);rw[jT,aj BG,dz,ByteArray.size_append,tq,tq,this,T5];omega
   ·split at hs
    ·rcases fm hs with hs|hs
     ·exact CC s hs
     ·rw[hs];exact T5
    ·exact CC s hs
  refine rR (k:=2) hs rfl (by omega) λr hr=>?_;subst hr;refine Ec (k:=2) (ys:=[.i p.1,.s p.2]) hs rfl rfl (λi v hi=>?_) ?_
  ·rw[ak]
   match i,hi with
   |0,hi=>simp at hi;subst hi;exact Xy
   |1,hi=>simp at hi;subst hi;exact Jk
  refine je hs λr1 w hs=>?_;simp only[nz,ae,ag];refine⟨rfl,kf (k:=0) hs rfl (aI rfl) (by simp[Value.oneCell']) λw hs=>?_⟩;simp only[nz,ae,ag] at hs;rw[e5];have fin:∀w',St W w' (pt r1 (over [.i 0,.s .empty] 0 [.i p.1,.s p.2])::pt d (sL sb (ah r) D.safe.length sc D.later.length lc D.ops D.arm)::own sb D.safe.length sc 1 ((eV mask torn c D.safe D.later (j+1)).map .string)::own (ah r) D.later.length lc 2 (kn D.later)::L.eraseIdx k)->
                                                                                                                                                       (∃j':Nat,[Value.int .i64 c,.l (ah r) D.later.length lc,.i D.later.length,.i ((j+1:Nat):Int)]=[.i c,.l (ah r) D.later.length lc,.i D.later.length,.i j']/\j'<=D.later.length/\
   St W w' (pt d (sL sb (ah r) D.safe.length sc D.later.length lc D.ops D.arm)::own sb D.safe.length sc 1 ((eV mask torn c D.safe D.later j').map .string)::own (ah r) D.later.length lc 2 (kn D.later)::L.eraseIdx k)/\
   (∀s∈eV mask torn c D.safe D.later j',s.size=128)):=λw' hs=>⟨j+1,rfl,by omega,hs.drop,adJ⟩
  refine Iv (λht=>?_) (λht=>?_)
  ·refine mw hs λw hs=>?_;apply cX (k:=1) hs rfl rfl;simp only[nz,ae,ag];apply cX (k:=0) hs rfl rfl;simp only[nz,ae,ag];apply cX (k:=0) hs rfl rfl;simp only[nz,ae,ag];unfold mG;simp only[nz,ae,ag];refine⟨⟨hc.1,by omega⟩,?_⟩;apply cX (k:=1) hs rfl rfl;simp only[nz,ae,ag];apply cX (k:=0) hs rfl rfl;simp only[nz,ae,ag];refine rR (k:=2) hs rfl ⟨hpa,hpb⟩ λr' hr'=>?_;subst hr';refine Av (k:=2) hs rfl (v:=.s ((eV mask torn c D.safe D.later j)[p.1.toNat])) (by rw[mm,dU,aj BG];rfl) ?_;simp only[nz,ae,ag];have h1:=CC _ (cb BG);refine⟨⟨hc.1,by rw[h1];exact hc.2⟩,⟨by rw[tq,tq];omega,?_⟩⟩;refine rR (k:=2) hs rfl ⟨hpa,hpb⟩ λr'' afc=>?_;cases afc
   refine Cd (k:=2) hs rfl (by rw[bY,mm];exact BG) rfl λw hs=>?_;simp only[nz,ae,ag] at hs;refine⟨fin w ?_,by omega⟩;rw[gA];have e6:(aZ.nM mask torn c (eV mask torn c D.safe D.later j) j p).map Value.string=((eV mask torn c D.safe D.later j).map Value.string).set (p.1.toNat* 1) (.s (p.2.extract 0 c.toNat++((eV mask torn c D.safe D.later j)[p.1.toNat]).extract c.toNat ((eV mask torn c D.safe D.later j)[p.1.toNat]).size)):=by
    unfold aZ.nM;rw[ai ht,List.map_set,mm,jT,aj BG];rfl
   rw[e6];exact hs
  ·refine⟨by unfold min2;split<;>omega,?_⟩;refine tJ (λhb=>?_) (λhb=>?_)
   ·refine mw hs λw hs=>?_;apply cX (k:=1) hs rfl rfl;simp only[nz,ae,ag];apply cX (k:=0) hs rfl rfl;simp only[nz,ae,ag];apply cX (k:=0) hs rfl rfl;simp only[nz,ae,ag];refine rR (k:=2) hs rfl ⟨hpa,hpb⟩ λr' hr'=>?_;subst hr';refine Cd (k:=2) hs rfl (by rw[bY,mm];exact BG) rfl λw hs=>?_;simp only[nz,ae,ag] at hs;refine⟨fin w ?_,by omega⟩;rw[gA];have e6:(aZ.nM mask torn c (eV mask torn c D.safe D.later j) j p).map Value.string=((eV mask torn c D.safe D.later j).map Value.string).set (p.1.toNat* 1) (.s p.2):=by
     unfold aZ.nM;have qY:aZ.bit mask j=true:=hb;rw[af ht,ai qY,List.map_set,mm]
    rw[e6];exact hs
   ·refine⟨fin w ?_,by omega⟩;rw[gA];have e6:aZ.nM mask torn c (eV mask torn c D.safe D.later j) j p=eV mask torn c D.safe D.later j:=by
     unfold aZ.nM;rw[af ht,af (by rw[aZ.bit,hb];exact cJ)]
    rw[e6];exact hs
 ·have Jp:j=D.later.length:=by omega
  subst Jp;refine oX (k:=0) hs rfl (aI rfl) rfl λw hs=>?_;simp only[nz,ae,ag] at hs;refine oX (k:=0) hs rfl (aI rfl) rfl λw hs=>?_;simp only[nz,ae,ag] at hs;apply hK w;have vY:=(hs.perm ((bX.cons _ (bX.swap _ _ _)).trans (bX.swap _ _ _))).drop.push (rM 2);have yt:=vY.perm ((bX.swap _ _ _).trans (bX.cons _ (bX.swap _ _ _)));exact ri (sb:=sb) (sc:=sc) (lb:=none) (lc:=0) (safe:=eV mask torn c D.safe D.later D.later.length) (later:=[]) (ops:=D.ops) (arm:=0) hk (jz _ _ _ _ _ _).symm rfl yt
end
def Ro(W:World)(b:OA)(n e:Nat)(xs:LV):Prop:=
 xs.length=n* e/\(b=none->n=0)/\∀a,b=some a->∀j v,xs[j]?=some v->W.cell? (a.add j)=some v
def add_add(a:Addr)(m n:Nat):(a.add m).add n=a.add (m+n):=by
 unfold Addr.add;by_cases h1:m=0
 ·subst h1;simp
 ·by_cases h2:n=0
  ·subst h2;simp[h1]
  ·rw[af h1,af h2,af (by omega)];simp;omega
section
variable {W w:World} {L:LH} {b:OA} {n e:Nat} {xs:LV}
def El{W:World}{a:Addr}{v:Value}(h:W.cell? a=some v):a.block<W.heap.size:=by
 unfold World.cell? at h;cases hb:W.heap[a.block]? with
 |none=>simp[hb] at h
 |some x=>exact(Array.getElem?_eq_some_iff.1 hb).1
def St.old(h:St W w L){a:Addr}(ha:a.block<W.heap.size):w.cell? a=W.cell? a:=h.1.cell ha
def Ro.cell(hr:Ro W b n e xs){a:Addr}(hb:b=some a)(h:St W w L){j:Nat}{v:Value}(hv:xs[j]?=some v):w.cell? (a.add j)=some v:=by
 have h2:=hr.2.2 a hb j v hv;rw[h.old (El h2)];exact h2
end
def sE(x y:BA):pP x y=decide (x=y):=by
 unfold pP;by_cases h:x=y
 ·subst h;simp
 ·have:x.toList≠y.toList:=by
   rw[ByteArray.toList_eq,ByteArray.toList_eq];intro he;exact h (ByteArray.ext (uF he))
  simp[h,this]
end Go.Sep
namespace Go.Prog
def YV:Nat:=285
def aac:Nat:=5
end Go.Prog
namespace Go.Prog
open Go.Den Go.RowKit
def Zp(B b:Nat)(l:List UInt8)(w:World):Prop:=Go.Lib.IsBuilder YV aac B b (Go.Lib.byteCells l) w
def iG(p:OA)(s:BA)(K:VK):WK:=λw=>∃B b l,p=ah b/\Zp B b l w/\l.length+s.size<=140737488355328/\B<=w.heap.size/\
 ∀w',Zp B b (l++s.data.toList) w'->Below B w w'->K (.tuple ⟨[.i s.size,.nilIface]⟩) w'
def iG.u:WP:=λargs K=>match args with|[.pointer p,.string s]=>iG p s K|_=>no
def ke(p:OA)(K:VK):WK:=λw=>∃B b l,p=ah b/\Zp B b l w/\B<=w.heap.size/\∀w',Below B w w'->K (.s ⟨l.toArray⟩) w'
def ke.u:WP:=λargs K=>match args with|[.pointer p]=>ke p K|_=>no
end Go.Prog
namespace Go.Prog
open Go.Den
abbrev ad(r o:Nat):Addr:=⟨r,o,none⟩
def rl(x y c:Int)(K:VK):WK:=cu ((0<=x/\0<=y)/\0<=c/\c<=1) (K (.tuple ⟨[.u ((x+y+c)%18446744073709551616),.u ((x+y+c)/18446744073709551616)]⟩))
def rl.u:WP:=λargs K=>match args with|[.int .u64 x,.int .u64 y,.int .u64 c]=>rl x y c K|_=>no
def rj(x y c:Int)(K:VK):WK:=cu ((0<=x/\0<=y/\y<18446744073709551616)/\0<=c/\c<=1) (K (.tuple ⟨[.u ((x-y-c)%18446744073709551616),.u (if x<y+c then 1 else 0)]⟩))
def rj.u:WP:=λargs K=>match args with|[.int .u64 x,.int .u64 y,.int .u64 c]=>rj x y c K|_=>no
end Go.Prog
namespace Go.Up
open Go.Sep Go.Den Go.RowKit Go.Prog
def T(W:World)(L:LH)(X:WK):Prop:=∀w,St W w L->X w
class Lc{α:Type}(P:α->HP)(L:LH)(x:outParam α)(f:outParam (α->LH)):Prop where
 at_:∃k:Nat,L[k]?=some (P x)/\∀y,f y=L.set k (P y)
instance Lc.head{α:Type}{P:α->HP}{x:α}{L:LH}:Lc P (P x::L) x (λy=>P y::L):=⟨0,rfl,λ_=>rfl⟩
instance Lc.tail{α:Type}{P:α->HP}{A:HP}{x:α}{L:LH}{f:α->LH}[h:Lc P L x f]:Lc P (A::L) x (λy=>A::f y):=by
 obtain⟨k,h1,h2⟩:=h.at_;exact⟨k+1,h1,λy=>by rw[h2];rfl⟩
def Lc.same{α:Type}{P:α->HP}{L:LH}{x:α}{f:α->LH}(h:Lc P L x f):f x=L:=by
 obtain⟨k,h1,h2⟩:=h.at_;rw[h2];exact nI h1
theorem Lc.next{α:Type}{P:α->HP}{L:LH}{x:α}{f:α->LH}(h:Lc P L x f)(y:α):Lc P (f y) y f:=by
 obtain⟨k,h1,h2⟩:=h.at_;exact⟨k,by rw[h2];exact kj h1,λz=>by rw[h2,h2,jC]⟩
class Sub(cs:LV)(o n:Nat)(xs:outParam (LV)):Prop where
 is:xs.length=n/\∀j v,xs[j]?=some v->cs[o+j]?=some v
class Wr(cs:LV)(o:Nat)(xs:LV)(ds:outParam (LV)):Prop where
 is:over cs o xs=ds/\o+xs.length<=cs.length/\∀v∈xs,v.oneCell'=true
class One(v:Value):Prop where
 is:v.oneCell'=true
instance{k:IntKind}{n:Int}:One (.int k n):=⟨rfl⟩
instance{b:OA}{n c:Nat}:One (.l b n c):=⟨rfl⟩
instance Wr.head{a v:Value}{cs:LV}[h:One v]:Wr (a::cs) 0 [v] (v::cs):=⟨by simp[over],by simp,λu hu=>by simp at hu;rw[hu];exact h.is⟩
instance Wr.tail{a v:Value}{cs ds:LV}{o:Nat}[h:Wr cs o [v] ds]:Wr (a::cs) (o+1) [v] (a::ds):=by
 obtain⟨h1,h2,h3⟩:=h.is;refine⟨?_,by simp at h2⊢;omega,h3⟩;rw[<-h1];simp only[over,pT,List.take_succ_cons,lH,Nat.add_right_comm o 1 1,List.drop_succ_cons]
section
variable {W:World} {L M:LH} {X Y:WK}
def T.at{w:World}(h:T W L X)(hs:St W w L):X w:=h w hs
def T.drop{A:HP}(h:T W L X):T W (A::L) X:=λw hs=>h w hs.drop
def T.perm(h:T W L X)(p:M.Perm L):T W M X:=λw hs=>h w (hs.perm p)
def T.fin{K:VK}{v v':Value}(h:T W L (K v))(e:v'=v):T W L (K v'):=e▸h
def tN{cs:LV}{F:Nat->WK}(h:∀r,T W (pt r cs::L) (F r)):T W L (mk cs F):=λw hs=>je hs λr w' h'=>h r w' h'
def IJ(h:T W L X):T W L (tick X):=λw hs=>mw hs λw' h'=>h w' h'
def dJ{p:Prop}(hp:p)(h:T W L X):T W L (cu p X):=λw hs=>⟨hp,h w hs⟩
def S6(h:T W L X):T W L (cu True X):=dJ trivial h
def aaj{a b:Nat}(e:a=b)(h:T W L X):T W L (cu (a=b) X):=dJ e h
def aak{a b:Nat}{q:Prop}(e:a=b)(h:T W L (cu q X)):T W L (cu (a=b/\q) X):=λw hs=>⟨⟨e,(h w hs).1⟩,(h w hs).2⟩
def db{b:Bool}(h1:b=true->T W L X)(h2:b=false->T W L Y):T W L (br b X Y):=λw hs=>tJ (λe=>h1 e w hs) (λe=>h2 e w hs)
def kL{b:Bool}(e:b=true)(h:T W L X):T W L (br b X Y):=by subst e;exact h
def eO{b:Bool}(e:b=false)(h:T W L Y):T W L (br b X Y):=by subst e;exact h
def vN(h:T W L X):T W L (br true X Y):=h
def sB(h:T W L Y):T W L (br false X Y):=h
def EU(h:T W L Y):T W L (br (!true) X Y):=h
def aam(h:T W L X):T W L (br (!false) X Y):=h
def yD{α:Type}{a:α}(h:T W L Y):T W L (br (Option.isNone (some a)) X Y):=h
def aal{α:Type}{a:α}(h:T W L X):T W L (br (!(Option.isNone (some a))) X Y):=h
def DF{a:Addr}{K:Addr->WK}(h:T W L (K a)):T W L (nn (some a) K):=h
def Nf(h1:T W L X)(h2:T W L Y):T W L (both X Y):=λw hs=>⟨h1 w hs,h2 w hs⟩
def mg{k:IntKind}{K:Int->WK}{n:Int}(h:T W L (K n)):T W L (xI k K (.int k n)):=λw hs=>by rw[YL];exact h w hs
def sA{K:Bool->WK}{n:Bool}(h:T W L (K n)):T W L (xB K (.b n)):=λw hs=>by rw[Sy];exact h w hs
def wc{K:BA->WK}{n:BA}(h:T W L (K n)):T W L (xS K (.s n)):=λw hs=>by rw[Sx];exact h w hs
def yj{K:OA->WK}{n:OA}(h:T W L (K n)):T W L (xP K (.p n)):=λw hs=>by rw[YJ];exact h w hs
def tZ{K:OA->Nat->Nat->WK}{b:OA}{n c:Nat}(h:T W L (K b n c)):T W L (xL K (.l b n c)):=λw hs=>by rw[YK];exact h w hs
def DE{n:Nat}{K:LV->WK}{cs:LV}(hn:cs.length=n)(h:T W L (K cs)):T W L (xA n K (.agg ⟨cs⟩)):=λw hs=>by rw[xX];exact⟨hn,h w hs⟩
def B9(h:T W L X):T W L (x0 X (.tuple ⟨[]⟩)):=λw hs=>by rw[YQ];exact h w hs
def aae{K:Value->Value->WK}{a b:Value}(h:T W L (K a b)):T W L (x2 K (.tuple ⟨[a,b]⟩)):=λw hs=>by rw[YN];exact h w hs
def ach{K:Value->Value->Value->WK}{a b c:Value}(h:T W L (K a b c)):T W L (x3 K (.tuple ⟨[a,b,c]⟩)):=λw hs=>by rw[YM];exact h w hs
variable {r o n:Nat} {cs xs ds:LV} {f:LV->LH} {v:Value}
def nF{K:VK}[i:Lc (pt r) L cs f](hv:cs[o]?=some v)(h:T W L (K v)):T W L (ld ⟨r,o,none⟩ K):=λw hs=>
 let⟨_,hk,_⟩:=i.at_;cX hs hk hv (h w hs)
def acj{K:LV->WK}[i:Lc (pt r) L cs f][s:Sub cs o n xs](h:T W L (K xs)):T W L (aJ ⟨r,o,none⟩ n K):=λw hs=>
 let⟨_,hk,_⟩:=i.at_;km hs hk s.is.1 s.is.2 (h w hs)
def aeT[i:Lc (pt r) L cs f][s:Wr cs o [v] ds](h:T W (f ds) X):T W L (st ⟨r,o,none⟩ v X):=λw hs=>by
 obtain⟨k,hk,e⟩:=i.at_;obtain⟨s1,s2,s3⟩:=s.is;refine oX hs hk (by have:=s2;simp at this;omega) (s3 v (by simp)) λw' h'=>h w' ?_;rw[e,<-s1];have:over cs o [v]=cs.set o v:=by
  apply oz;intro j;rw[Br s2,cW];simp only[aW,cK] at s2⊢;by_cases h1:j<o
  ·rw[ai h1,af (by omega)]
  ·by_cases h2:o=j
   ·subst h2;rw[af h1,ai (by omega),ai rfl,ai (by omega)];simp
   ·rw[af h1,af (by omega),af h2]
 rw[this];exact h'
def Y0[i:Lc (pt r) L cs f][s:Wr cs o xs ds](h:T W (f ds) X):T W L (jU ⟨r,o,none⟩ xs X):=λw hs=>by
 obtain⟨k,hk,e⟩:=i.at_;obtain⟨s1,s2,s3⟩:=s.is;refine kf hs hk s2 s3 λw' h'=>h w' ?_;rw[e,<-s1];exact h'
def ER{k:Nat}{K:VK}(h:T W L (ld ⟨r,k,none⟩ K)):T W L (ld (Addr.add ⟨r,0,none⟩ k) K):=by rw[gY,aD];exact h
def SY{k:Nat}{K:VK}(h:T W L (ld ⟨r,o+k,none⟩ K)):T W L (ld (Addr.add ⟨r,o,none⟩ k) K):=by rw[gY];exact h
def Wl{k:Nat}{K:LV->WK}(h:T W L (aJ ⟨r,k,none⟩ n K)):T W L (aJ (Addr.add ⟨r,0,none⟩ k) n K):=by rw[gY,aD];exact h
def aag{k:Nat}{K:LV->WK}(h:T W L (aJ ⟨r,o+k,none⟩ n K)):T W L (aJ (Addr.add ⟨r,o,none⟩ k) n K):=by rw[gY];exact h
def aaf{k:Nat}(h:T W L (st ⟨r,k,none⟩ v X)):T W L (st (Addr.add ⟨r,0,none⟩ k) v X):=by rw[gY,aD];exact h
def O0{k:Nat}(h:T W L (st ⟨r,o+k,none⟩ v X)):T W L (st (Addr.add ⟨r,o,none⟩ k) v X):=by rw[gY];exact h
def Wi{k:Nat}(h:T W L (jU ⟨r,k,none⟩ xs X)):T W L (jU (Addr.add ⟨r,0,none⟩ k) xs X):=by rw[gY,aD];exact h
def aai{k:Nat}(h:T W L (kp ⟨r,k,none⟩ xs X)):T W L (kp (Addr.add ⟨r,0,none⟩ k) xs X):=by rw[gY,aD];exact h
def yC[i:Lc (pt r) L cs f](hv:cs[o]?=some v)(h:T W L X):T W L (kp ⟨r,o,none⟩ [v] X):=λw hs=>
 let⟨_,hk,_⟩:=i.at_;kC hs hk hv (h w hs)
def S4[i:Lc (pt r) L cs f][s:Sub cs o n xs](h:T W L X):T W L (kp ⟨r,o,none⟩ xs X):=λw hs=>
 let⟨_,hk,_⟩:=i.at_;PQ hs hk s.is.2 (h w hs)
def O4{a:Addr}{K:LV->WK}(hg:xs.length=n/\∀j v,xs[j]?=some v->W.cell? (a.add j)=some v)(h:T W L (K xs)):T W L (aJ a n K):=λw hs=>
 ⟨xs,hg.1,λj v hj=>by
  have:=hg.2 j v hj
  rw[hs.old (El this)];exact this,h w hs⟩
def O6{zs ys:LV}{K:Bool->WK}(h1:o0 zs xs=true)(h2:o0 zs ys=true)(h:T W L (K (jf xs ys))):T W L (rT zs xs ys K):=λw hs=>⟨⟨h1,h2⟩,h w hs⟩
end
def nm(n:Nat):LV:=[.u ((n/18446744073709551616:Nat):Int),.u ((n%18446744073709551616:Nat):Int)]
instance{n:Nat}:Sub (nm n) 0 2 (nm n):=⟨rfl,λj v h=>by rw[aD];exact h⟩
instance{cs:LV}{a b:Value}:Sub (a::b::cs) 0 2 [a,b]:=⟨rfl,λj v h=>by
 rw[aD]
 match j with
 |0=>exact h
 |1=>exact h
 |j+2=>simp at h⟩
def ZN(a b:Nat):jf (nm a) (nm b)=decide (a=b):=by
 simp only[nm,jf,AF,Bool.and_true];by_cases h:a=b
 ·subst h;simp
 ·rw[aq h,Bool.and_eq_false_iff];by_cases h1:a/18446744073709551616=b/18446744073709551616
  ·right
   have: ¬((a%18446744073709551616:Nat):Int)=((b%18446744073709551616:Nat):Int):=by omega
   simpa using this
  ·left
   have: ¬((a/18446744073709551616:Nat):Int)=((b/18446744073709551616:Nat):Int):=by omega
   simpa using this
def Y2{W:World}{L:LH}{a b:Nat}{K:Bool->WK}(h:T W L (K (decide (a=b)))):T W L (rT [.u 0,.u 0] (nm a) (nm b) K):=O6 rfl rfl (by rw[ZN];exact h)
def acn{W:World}{L:LH}{X:WK}{r o m:Nat}{cs:LV}{f:LV->LH}[i:Lc (pt r) L cs f][s:Sub cs o 2 (nm m)](h:T W L X):T W L (kp ⟨r,o,none⟩ (nm m) X):=S4 (n:=2) h
def acp{W:World}{L:LH}{a:Nat}{K:Bool->WK}(h:T W L (K (decide (a=0)))):T W L (rT [.u 0,.u 0] (nm a) [.u 0,.u 0] K):=Y2 (b:=0) h
class Wk(L:LH)(X:WK)(L':outParam (LH))(Y:outParam WK):Prop where
 go:∀W,T W L' Y->T W L X
class Eqn(a b:Nat):Prop where
 is:a=b
instance{a:Nat}:Eqn a a:=⟨rfl⟩
class Eqv(a b:Value):Prop where
 is:a=b
instance{a:Value}:Eqv a a:=⟨rfl⟩
class Ln(cs:LV)(n:outParam Nat):Prop where
 is:cs.length=n
instance:Ln [] 0:=⟨rfl⟩
instance{a:Value}{l:LV}{n:Nat}[h:Ln l n]:Ln (a::l) (n+1):=⟨by rw[aW,h.is]⟩
instance{a b:LV}{n m:Nat}[h:Ln a n][g:Ln b m]:Ln (a++b) (n+m):=⟨by rw[au,h.is,g.is]⟩
instance{cs:LV}{k n:Nat}[h:Ln cs k][e:Eqn k n]:Eqn cs.length n:=⟨by rw[h.is,e.is]⟩
instance{n:Nat}:Ln (nm n) 2:=⟨rfl⟩
section
variable {L:LH} {X Y:WK} {r o n:Nat} {cs xs ds:LV} {f:LV->LH} {v:Value}
instance{k:IntKind}{K:Int->WK}{n:Int}:Wk L (xI k K (.int k n)) L (K n):=⟨λ_ h=>mg h⟩
instance{K:Bool->WK}{n:Bool}:Wk L (xB K (.b n)) L (K n):=⟨λ_ h=>sA h⟩
instance{K:BA->WK}{n:BA}:Wk L (xS K (.s n)) L (K n):=⟨λ_ h=>wc h⟩
instance{K:OA->WK}{n:OA}:Wk L (xP K (.p n)) L (K n):=⟨λ_ h=>yj h⟩
instance{K:OA->Nat->Nat->WK}{b:OA}{n c:Nat}:Wk L (xL K (.l b n c)) L (K b n c):=⟨λ_ h=>tZ h⟩
instance:Wk L (x0 X (.tuple ⟨[]⟩)) L X:=⟨λ_ h=>B9 h⟩
instance{K:Value->Value->WK}{a b:Value}:Wk L (x2 K (.tuple ⟨[a,b]⟩)) L (K a b):=⟨λ_ h=>aae h⟩
instance{K:Value->Value->Value->WK}{a b c:Value}:Wk L (x3 K (.tuple ⟨[a,b,c]⟩)) L (K a b c):=⟨λ_ h=>ach h⟩
instance:Wk L (cu True X) L X:=⟨λ_ h=>S6 h⟩
instance{a b:Nat}[i:Eqn a b]:Wk L (cu (a=b) X) L X:=⟨λ_ h=>aaj i.is h⟩
instance{a b:Nat}{q:Prop}[i:Eqn a b]:Wk L (cu (a=b/\q) X) L (cu q X):=⟨λ_ h=>aak i.is h⟩
instance:Wk L (br true X Y) L X:=⟨λ_ h=>h⟩
instance:Wk L (br false X Y) L Y:=⟨λ_ h=>h⟩
instance:Wk L (br (!true) X Y) L Y:=⟨λ_ h=>h⟩
instance:Wk L (br (!false) X Y) L X:=⟨λ_ h=>h⟩
instance{α:Type}{a:α}:Wk L (br (Option.isNone (some a)) X Y) L Y:=⟨λ_ h=>h⟩
instance{α:Type}{a:α}:Wk L (br (!(Option.isNone (some a))) X Y) L X:=⟨λ_ h=>h⟩
instance{a:Addr}{K:Addr->WK}:Wk L (nn (some a) K) L (K a):=⟨λ_ h=>h⟩
instance:Wk L (tick X) L X:=⟨λ_ h=>IJ h⟩
instance{k:Nat}{K:VK}:Wk L (ld (Addr.add ⟨r,0,none⟩ k) K) L (ld ⟨r,k,none⟩ K):=⟨λ_ h=>ER h⟩
instance{k:Nat}{K:LV->WK}:Wk L (aJ (Addr.add ⟨r,0,none⟩ k) n K) L (aJ ⟨r,k,none⟩ n K):=⟨λ_ h=>Wl h⟩
instance{k:Nat}:Wk L (st (Addr.add ⟨r,0,none⟩ k) v X) L (st ⟨r,k,none⟩ v X):=⟨λ_ h=>aaf h⟩
instance{k:Nat}:Wk L (jU (Addr.add ⟨r,0,none⟩ k) xs X) L (jU ⟨r,k,none⟩ xs X):=⟨λ_ h=>Wi h⟩
instance{k:Nat}:Wk L (kp (Addr.add ⟨r,0,none⟩ k) xs X) L (kp ⟨r,k,none⟩ xs X):=⟨λ_ h=>aai h⟩
instance{K:LV->WK}[i:Lc (pt r) L cs f][s:Sub cs o n xs]:Wk L (aJ ⟨r,o,none⟩ n K) L (K xs):=⟨λ_ h=>acj h⟩
instance[i:Lc (pt r) L cs f][s:Wr cs o [v] ds]:Wk L (st ⟨r,o,none⟩ v X) (f ds) X:=⟨λ_ h=>aeT h⟩
instance[i:Lc (pt r) L cs f][s:Wr cs o xs ds]:Wk L (jU ⟨r,o,none⟩ xs X) (f ds) X:=⟨λ_ h=>Y0 h⟩
instance{m:Nat}[i:Lc (pt r) L cs f][s:Sub cs o 2 (nm m)]:Wk L (kp ⟨r,o,none⟩ (nm m) X) L X:=⟨λ_ h=>acn h⟩
instance{a b:Nat}{K:Bool->WK}:Wk L (rT [.u 0,.u 0] (nm a) (nm b) K) L (K (decide (a=b))):=⟨λ_ h=>Y2 h⟩
instance{a:Nat}{K:Bool->WK}:Wk L (rT [.u 0,.u 0] (nm a) [.u 0,.u 0] K) L (K (decide (a=0))):=⟨λ_ h=>acp h⟩
end
class Gt(cs:LV)(o:Nat)(v:outParam Value):Prop where
 is:cs[o]?=some v
instance{a:Value}{l:LV}:Gt (a::l) 0 a:=⟨rfl⟩
instance{a v:Value}{l:LV}{o:Nat}[h:Gt l o v]:Gt (a::l) (o+1) v:=⟨by rw[bT];exact h.is⟩
instance{n:Nat}:Gt (nm n) 0 (.u (n/18446744073709551616:Nat)):=⟨rfl⟩
instance{n:Nat}:Gt (nm n) 1 (.u (n%18446744073709551616:Nat)):=⟨rfl⟩
class Lv(L:LH)(r o:Nat)(v:outParam Value):Prop where
 ld:∀{W:World} {K:VK},T W L (K v)->T W L (ld ⟨r,o,none⟩ K)
 kp:∀{W:World} {X:WK},T W L X->T W L (kp ⟨r,o,none⟩ [v] X)
instance{L:LH}{r o:Nat}{v:Value}{cs:LV}{f:LV->LH}[i:Lc (pt r) L cs f][g:Gt cs o v]:Lv L r o v:=⟨λh=>nF (i:=i) g.is h,λh=>yC (i:=i) g.is h⟩
section
variable {L:LH} {X A B:WK} {r o n:Nat} {v:Value} {K:VK} {cs:LV}
instance[i:Lv L r o v]:Wk L (ld ⟨r,o,none⟩ K) L (K v):=⟨λ_ h=>i.ld h⟩
instance{u:Value}[i:Lv L r o u][e:Eqv u v]:Wk L (kp ⟨r,o,none⟩ [v] X) L X:=⟨λ_ h=>by rw[<-e.is];exact i.kp h⟩
instance{K:LV->WK}{k:Nat}[h:Ln cs k][e:Eqn k n]:Wk L (xA n K (.agg ⟨cs⟩)) L (K cs):=⟨λ_ g=>DE (by rw[h.is,e.is]) g⟩
end
class Wb(X:WK)(A B:outParam WK):Prop where
 is:X=both A B
instance{A B:WK}:Wb (both A B) A B:=⟨rfl⟩
def wb{W:World}{L:LH}{X A B:WK}[i:Wb X A B](h:T W L A)(g:T W L B):T W L X:=by rw[i.is];exact Nf h g
class Ws(L:LH)(X:WK)(Q:outParam (World->Prop)):Prop where
 go:∀W,Q W->T W L X
class Wp(L:LH)(X:WK)(Q:outParam (World->Prop)):Prop where
 go:∀W,Q W->T W L X
section
variable {L L':LH} {X Y:WK} {Q:World->Prop}
instance(priority:=low):Ws L X (λW=>T W L X):=⟨λ_ h=>h⟩
instance[j:Wp L X Q]:Ws L X Q:=⟨j.go⟩
instance[i:Wk L X L' Y][j:Ws L' Y Q]:Wp L X Q:=⟨λW h=>i.go W (j.go W h)⟩
instance{cs:LV}{F:Nat->WK}{Q:Nat->World->Prop}[j:∀r,Ws (pt r cs::L) (F r) (Q r)]:Wp L (mk cs F) (λW=>∀r,Q r W):=⟨λW h=>tN λr=>(j r).go W (h r)⟩
def ws{W:World}[i:Wp L X Q](h:Q W):T W L X:=i.go W h
def fZ{W:World}{p:Prop}[Decidable p](h1:p->T W L X)(h2: ¬p->T W L Y):T W L (br (decide p) X Y):=db (λh=>h1 (aS h)) (λh=>h2 (bq h))
end
class Has(R L:LH):Prop where
 sub:∀{W w:World},St W w L->St W w R
instance Has.refl{R:LH}:Has R R:=⟨λh=>h⟩
instance(priority:=low) Has.tail{R L:LH}{A:HP}[h:Has R L]:Has R (A::L):=⟨λhs=>h.sub hs.drop⟩
instance{R L:LH}[h:Has R L]:Has ([]++R) L:=⟨λhs=>h.sub hs⟩
def T.dp{W:World}{M L:LH}{X:WK}[i:Has M L](h:T W M X):T W L X:=λw hs=>h w (i.sub hs)
end Go.Up
namespace Go.Prog
open Go.Den
def ui(a:BA)(K:VK):WK:=tick (br (decide ((aa.wrap ((a.size:Int) -4))>=0)) (mG a none (some (aa.wrap ((a.size:Int) -4))) λc=>mG a (some (aa.wrap ((a.size:Int) -4))) none λd=>uW 0 c (xI .u32 λe=>rX e (xS λf=>K (.b (pP f d))))) (K (.b false)))
def nG(h:BA)(i:Int)(K:VK):WK:=(λj=>∃(c:LV->World->Prop)(e:LV->World->Nat),c [.s h,.s .empty] j/\∀(a:BA)(b:BA)(d:World),c [.s a,.s b] d->(br (decide ((a.size:Int)>0)) (zQ a 0 λk=>br ((k.toNat:Int)==i) (mG a (some 1) none λf=>(λg=>c [.s f,.s b] g/\e [.s f,.s b] g<e [.s a,.s b] d)) (K (.s a))) (K (.s a))) d)
def na(h:BA)(i:Int)(K:VK):WK:=(λj=>∃(c:LV->World->Prop)(e:LV->World->Nat),c [.s h,.s .empty] j/\∀(a:BA)(b:BA)(d:World),c [.s a,.s b] d->(br (decide ((a.size:Int)>0)) (zQ a (aa.wrap ((a.size:Int) -1)) λk=>br ((k.toNat:Int)==i) (mG a none (some (aa.wrap ((a.size:Int) -1))) λf=>(λg=>c [.s f,.s b] g/\e [.s f,.s b] g<e [.s a,.s b] d)) (K (.s a))) (K (.s a))) d)
def ik.j2(K:VK):WK:=no
def ik.j3(K:VK)(a b:BA)(c:Bool):WK:=br c (tick (zQ a 0 λd=>zQ a 0 λe=>na b (d.toNat:Int) (xS λf=>nG f (e.toNat:Int) (xS λg=>K (.s g))))) (ik.j2 K)
def ik.j1(K:VK)(b a:BA)(c:Bool):WK:=br c (K (.s b)) (br ((a.size:Int)==1) (zQ a 0 λd=>ik.j3 K a b (decide ((d.toNat:Int)<128))) (ik.j3 K a b false))
def ik(a b:BA)(K:VK):WK:=br (pP a (⟨#[]⟩:BA)) (ik.j1 K a b true) (ik.j1 K a b (pP b (⟨#[]⟩:BA)))
def l6.j1(K:VK)(a:Nat)(h:BA)(j:Bool):WK:=br j (cu True (cu (3=3) (jU (⟨a,0,none⟩:Addr) [.i 0,.i 0,.s .empty] (aJ (⟨a,0,none⟩:Addr) 3 λk=>K (.tuple ⟨[.agg ⟨k⟩,.b false]⟩))))) (oB h (xP λd=>aL d 8 (xI .i64 λl=>aL d 2 (xI .i64 λm=>cu (1=1/\(1=1/\True)) (mk [.i 0,.i 0,.s .empty] λc=>cu (3=3) (jU (⟨c,0,none⟩:Addr) [.i l,.i m,.s .empty] (aL d 2 (xI .i64 λf=>br (decide (f>104)) (cu True (cu (3=3) (jU (⟨a,0,none⟩:Addr) [.i 0,.i 0,.s .empty] (aJ (⟨a,0,none⟩:Addr) 3 λn=>K (.tuple ⟨[.agg ⟨n⟩,.b false]⟩))))) (fo d f (xS λo=>st ((⟨c,0,none⟩:Addr).add 2) (.s o) (fo d (aa.wrap (104-f)) (xS λp=>fo d 4 (xS λz=>tick (ld ((⟨c,0,none⟩:Addr).add 0) (xI .i64 λe=>aL d 8 (xI .i64 λq=>kp ((⟨c,0,none⟩:Addr).add 0) [.i e] (br (q !=e) (cu True (cu (3=3) (jU (⟨a,0,none⟩:Addr) [.i 0,.i 0,.s .empty] (aJ (⟨a,0,none⟩:Addr) 3 λr=>K (.tuple ⟨[.agg ⟨r⟩,.b false]⟩))))) (ik p (⟨#[0]⟩:BA) (xS λt=>kp ((⟨c,0,none⟩:Addr).add 0) [.i e] (br (!(pP t (⟨#[]⟩:BA))) (cu True (cu (3=3) (jU (⟨a,0,none⟩:Addr) [.i 0,.i 0,.s .empty] (aJ (⟨a,0,none⟩:Addr) 3 λu=>K (.tuple ⟨[.agg ⟨u⟩,.b false]⟩))))) (aJ (⟨c,0,none⟩:Addr) 3 λv=>uJ v (xB λw=>kp ((⟨c,0,none⟩:Addr).add 0) [.i e] (br (!w) (cu True (cu (3=3) (jU (⟨a,0,none⟩:Addr) [.i 0,.i 0,.s .empty] (aJ (⟨a,0,none⟩:Addr) 3 λx=>K (.tuple ⟨[.agg ⟨x⟩,.b false]⟩))))) (aJ (⟨c,0,none⟩:Addr) 3 λg=>cu (g.length=3) (jU (⟨a,0,none⟩:Addr) g (aJ (⟨a,0,none⟩:Addr) 3 λy=>K (.tuple ⟨[.agg ⟨y⟩,.b true]⟩)))))))))))))))))))))))))))
def l6(a:BA)(K:VK):WK:=mk [.i 0,.i 0,.s .empty] λb=>br ((a.size:Int)!=128) (l6.j1 K b a true) (mG a none (some 120) λc=>ui c (xB λd=>l6.j1 K b a (!d)))
def jc.j1(K:VK)(k:Int)(q:OA)(r t:Int)(u:Bool):WK:=br u (K (.tuple ⟨[.s .empty,.b false]⟩)) (mkT YV [.p none,.l none 0 0] λv=>mF k (xI .i64 λw=>(λx=>∃(h:LV->World->Prop)(m:LV->World->Nat),h [.s .empty,.b false,.p (some (⟨v,0,none⟩:Addr)),.i w,.i 0] x/\∀(f:BA)(g:Bool)(c:Addr)(d:Int)(a:Int)(j:World),h [.s f,.b g,.p (some c),.i d,.i a] j->(br (decide (a<d)) (kk q (aa.wrap (r+a)) (x2 λy z=>(xS λA=>(xI .i64 λO=>l6 A (x2 λB C=>(xA 3 λn=>(xB λD=>mk [.i 0,.i 0,.s .empty] λe=>cu (n.length=3) (jU (⟨e,0,none⟩:Addr) n (br (!D) (K (.tuple ⟨[.s .empty,.b false]⟩)) (ld ((⟨e,0,none⟩:Addr).add 0) (xI .i64 λE=>br (E !=t) (K (.tuple ⟨[.s .empty,.b false]⟩)) (ld ((⟨e,0,none⟩:Addr).add 1) (xI .i64 λF=>br (F !=a) (K (.tuple ⟨[.s .empty,.b false]⟩)) (ld ((⟨e,0,none⟩:Addr).add 2) (xS λG=>br ((G.size:Int)!=(min2 (aa.wrap (k-(aa.wrap (a* 104)))) 104)) (K (.tuple ⟨[.s .empty,.b false]⟩)) (ld ((⟨e,0,none⟩:Addr).add 2) (xS λH=>iG (some c) H (x2 λI J=>(xI .i64 λP=>(λQ=>(λo=>h [.s f,.b g,.p (some c),.i d,.i (aa.wrap (a+1))] o/\m [.s f,.b g,.p (some c),.i d,.i (aa.wrap (a+1))] o<m [.s f,.b g,.p (some c),.i d,.i a] j)) J) I)))))))))))) C) B)) z) y)) (ke (some c) (xS λM=>K (.tuple ⟨[.s M,.b true]⟩)))) j)))
def jc(c:OA)(a e d b:Int)(K:VK):WK:=br (decide (a<0)) (jc.j1 K b c a d true) (fE c (xI .i64 λf=>br (decide (e>f)) (jc.j1 K b c a d true) (br (decide (a>e)) (jc.j1 K b c a d true) (br (decide (b<0)) (jc.j1 K b c a d true) (br (decide (b>425984)) (jc.j1 K b c a d true) (mF b (xI .i64 λg=>jc.j1 K b c a d (decide (g>(aa.wrap (e-a)))))))))))
def bK(l m:Int)(K:VK):WK:=(λn=>∃(f:LV->World->Prop)(j:LV->World->Nat),f [.s .empty,.i (min2 (max2 l 1) 8),.u (IntKind.u64.wrap m),.s .empty,.i 0] n/\∀(e:BA)(b:Int)(c:Int)(a:BA)(d:Int)(g:World),f [.s e,.i b,.u c,.s a,.i d] g->(br (decide (d<b)) (cu ((256:Int)≠0) (cu (1=1/\True) (mk [.int .u8 (IntKind.u8.wrap (c.tmod (256:Int)))] λo=>U2 (ah o) 1 λh=>cu (((a.size+h.size:Nat):Int)<=9223372036854775807) (cu ((256:Int)≠0) ((λk=>f [.s e,.i b,.u (IntKind.u64.wrap (c.tdiv (256:Int))),.s (a++h),.i (aa.wrap (d+1))] k/\j [.s e,.i b,.u (IntKind.u64.wrap (c.tdiv (256:Int))),.s (a++h),.i (aa.wrap (d+1))] k<j [.s e,.i b,.u c,.s a,.i d] g)))))) (K (.s a))) g)
def ud.j1(K:VK)(a:Nat)(b:Int)(c:Bool):WK:=br c (cu True (cu (5=5) (jU (⟨a,0,none⟩:Addr) [.i 0,.i 0,.i 0,.i 0,.i 0] (aJ (⟨a,0,none⟩:Addr) 5 λd=>K (.tuple ⟨[.agg ⟨d⟩,.i 1]⟩))))) (cu ((5:Int)≠0) (cu (1=1/\(1=1/\(1=1/\(1=1/\(1=1/\True))))) (cu (5=5) (jU (⟨a,0,none⟩:Addr) [.i 2,.i (aa.wrap (2+(aa.wrap ((aa.wrap ((aa.wrap (b-2))* 2)).tdiv (5:Int))))),.i (aa.wrap ((aa.wrap ((aa.wrap (b-2))* 2)).tdiv (5:Int))),.i (aa.wrap (2+(aa.wrap (2* (aa.wrap ((aa.wrap ((aa.wrap (b-2))* 2)).tdiv (5:Int))))))),.i b] (aJ (⟨a,0,none⟩:Addr) 5 λe=>K (.tuple ⟨[.agg ⟨e⟩,.i 0]⟩))))))
def ud(a:Int)(K:VK):WK:=mk [.i 0,.i 0,.i 0,.i 0,.i 0] λb=>br (decide (a<12)) (ud.j1 K b a true) (ud.j1 K b a (decide (a>4096)))
def pe(b:LV)(c:Int)(K:VK):WK:=mk b λa=>ld ((⟨a,0,none⟩:Addr).add 0) (xI .i64 λd=>ld ((⟨a,0,none⟩:Addr).add 1) (xI .i64 λe=>cu (1=1/\(1=1/\True)) (Dg [.i d,.i e] 2 (de .i64 .and c 1) (xI .i64 λf=>K (.i f)))))
def qK(g:LV)(c:OA)(d h:Int)(j:BA)(K:VK):WK:=mk g λa=>br (c.isNone) (K (.i 2)) (tick (aJ (⟨a,0,none⟩:Addr) 5 λk=>aJ (⟨a,0,none⟩:Addr) 5 λe=>ld ((⟨a,0,none⟩:Addr).add 2) (xI .i64 λb=>pe k d (xI .i64 λl=>kp ((⟨a,0,none⟩:Addr).add 2) [.i b] (kp (⟨a,0,none⟩:Addr) e (pe e d (xI .i64 λm=>kp ((⟨a,0,none⟩:Addr).add 2) [.i b] (lJ c l (aa.wrap (m+b)) h j (xI .i64 λf=>kp ((⟨a,0,none⟩:Addr).add 2) [.i b] (br (f !=0) (K (.i f)) (lM c (xI .i64 λn=>K (.i n)))))))))))))
def qL(g:LV)(d:OA)(e h j:Int)(K:VK):WK:=mk g λa=>br (d.isNone) (K (.tuple ⟨[.s .empty,.b false]⟩)) (tick (aJ (⟨a,0,none⟩:Addr) 5 λk=>aJ (⟨a,0,none⟩:Addr) 5 λf=>ld ((⟨a,0,none⟩:Addr).add 2) (xI .i64 λc=>pe k e (xI .i64 λl=>kp ((⟨a,0,none⟩:Addr).add 2) [.i c] (kp (⟨a,0,none⟩:Addr) f (pe f e (xI .i64 λm=>kp ((⟨a,0,none⟩:Addr).add 2) [.i c] (jc d l (aa.wrap (m+c)) h j (x2 λn o=>(xS λp=>(xB λq=>kp ((⟨a,0,none⟩:Addr).add 2) [.i c] (K (.tuple ⟨[.s p,.b q]⟩))) o) n)))))))))
def qa(e:LV)(a:Int)(K:VK):WK:=mk e λc=>tick (br (decide (a>=0)) (ld ((⟨c,0,none⟩:Addr).add 2) (xI .i64 λd=>mF a (xI .i64 λf=>kp ((⟨c,0,none⟩:Addr).add 2) [.i d] (K (.b (decide (f<=d))))))) (K (.b false)))
def uT(c:LV)(K:VK):WK:=mk c λa=>ld ((⟨a,0,none⟩:Addr).add 0) (xI .i64 λd=>br (decide (d>=1)) (ld ((⟨a,0,none⟩:Addr).add 0) (xI .i64 λe=>br (decide (e<=1152921504606846976)) (ld ((⟨a,0,none⟩:Addr).add 1) (xI .i64 λf=>br (decide (f>=1)) (ld ((⟨a,0,none⟩:Addr).add 1) (xI .i64 λg=>br (decide (g<=1152921504606846976)) (ld ((⟨a,0,none⟩:Addr).add 2) (xI .i64 λh=>br (decide (h>=0)) (ld ((⟨a,0,none⟩:Addr).add 2) (xI .i64 λi=>br (decide (i<=425984)) (ld ((⟨a,0,none⟩:Addr).add 3) (xI .i64 λj=>br (decide (j>=0)) (ld ((⟨a,0,none⟩:Addr).add 3) (xI .i64 λk=>K (.b (decide (k<=1152921504606846976))))) (K (.b false)))) (K (.b false)))) (K (.b false)))) (K (.b false)))) (K (.b false)))) (K (.b false)))) (K (.b false)))
def vy(m:LV)(K:VK):WK:=mk m λc=>aJ (⟨c,0,none⟩:Addr) 4 λn=>uT n (xB λo=>br (!o) (K (.tuple ⟨[.s .empty,.i 1]⟩)) (cu True (mk [.l none 0 0] λq=>ld ((⟨c,0,none⟩:Addr).add 0) (xI .i64 λr=>ld ((⟨c,0,none⟩:Addr).add 1) (xI .i64 λt=>ld ((⟨c,0,none⟩:Addr).add 2) (xI .i64 λu=>ld ((⟨c,0,none⟩:Addr).add 3) (xI .i64 λv=>cu (1=1/\(1=1/\(1=1/\(1=1/\True)))) ((λw=>∃(g:LV->World->Prop)(j:LV->World->Nat),g [.s .empty,.i 0,.p (some (⟨q,0,none⟩:Addr)),.agg ⟨[.i r,.i t,.i u,.i v]⟩,.i 0] w/\∀(e:BA)(f:Int)(a:Addr)(d:LV)(b:Int)(h:World),g [.s e,.i f,.p (some a),.agg ⟨d⟩,.i b] h->(br (decide (b<4)) (Dg d 4 b (xI .i64 λx=>bu (some a) 8 x (x0 ((λk=>g [.s e,.i f,.p (some a),.agg ⟨d⟩,.i (aa.wrap (b+1))] k/\j [.s e,.i f,.p (some a),.agg ⟨d⟩,.i (aa.wrap (b+1))] k<j [.s e,.i f,.p (some a),.agg ⟨d⟩,.i b] h))))) (dG (some a) (xS λy=>K (.tuple ⟨[.s y,.i 0]⟩)))) h)))))))))
def uy(a:OA)(e:Int)(f:LV)(K:VK):WK:=mk f λb=>aJ (⟨b,0,none⟩:Addr) 4 λg=>vy g (x2 λh j=>(xS λk=>(xI .i64 λc=>br (a.isNone) (K (.i 2)) (br (c !=0) (K (.i c)) (ld ((⟨b,0,none⟩:Addr).add 0) (xI .i64 λl=>ld ((⟨b,0,none⟩:Addr).add 0) (xI .i64 λm=>lJ a (de .i64 .and l 1) (aa.wrap ((de .i64 .and m 1)+1)) e k (xI .i64 λd=>br (d !=0) (K (.i d)) (lM a (xI .i64 λn=>K (.i n))))))))) j) h)
def ky(a:OA)(K:VK):WK:=br (!(a.isNone)) (nn a λc=>ld (c.add 1) (xB λd=>br (!d) (nn a λe=>ld (e.add 0) (xS λf=>K (.b (pP f (⟨#[]⟩:BA))))) (K (.b false)))) (K (.b false))
def xJ(f:BA)(K:VK):WK:=mk [.i 0,.i 0,.i 0,.i 0] λa=>oB f (xP λc=>aL c 8 (xI .i64 λg=>aL c 8 (xI .i64 λh=>aL c 8 (xI .i64 λj=>aL c 8 (xI .i64 λk=>cu (1=1/\(1=1/\(1=1/\(1=1/\True)))) (mk [.i 0,.i 0,.i 0,.i 0] λd=>cu (4=4) (jU (⟨d,0,none⟩:Addr) [.i g,.i h,.i j,.i k] (ky c (xB λl=>br (!l) (cu True (cu (4=4) (jU (⟨a,0,none⟩:Addr) [.i 0,.i 0,.i 0,.i 0] (aJ (⟨a,0,none⟩:Addr) 4 λm=>K (.tuple ⟨[.agg ⟨m⟩,.b false]⟩))))) (aJ (⟨d,0,none⟩:Addr) 4 λn=>uT n (xB λo=>br (!o) (cu True (cu (4=4) (jU (⟨a,0,none⟩:Addr) [.i 0,.i 0,.i 0,.i 0] (aJ (⟨a,0,none⟩:Addr) 4 λp=>K (.tuple ⟨[.agg ⟨p⟩,.b false]⟩))))) (aJ (⟨d,0,none⟩:Addr) 4 λe=>cu (e.length=4) (jU (⟨a,0,none⟩:Addr) e (aJ (⟨a,0,none⟩:Addr) 4 λq=>K (.tuple ⟨[.agg ⟨q⟩,.b true]⟩)))))))))))))))
def pA.j1(K:VK)(a f:Nat)(g:Int)(h:Bool):WK:=br h (cu True (cu (4=4) (jU (⟨a,0,none⟩:Addr) [.i 0,.i 0,.i 0,.i 0] (aJ (⟨a,0,none⟩:Addr) 4 λj=>K (.tuple ⟨[.agg ⟨j⟩,.b false]⟩))))) (ld ((⟨f,0,none⟩:Addr).add 2) (xS λk=>xJ k (x2 λl m=>(xA 4 λd=>(xB λn=>mk [.i 0,.i 0,.i 0,.i 0] λc=>cu (d.length=4) (jU (⟨c,0,none⟩:Addr) d (br (!n) (cu True (cu (4=4) (jU (⟨a,0,none⟩:Addr) [.i 0,.i 0,.i 0,.i 0] (aJ (⟨a,0,none⟩:Addr) 4 λo=>K (.tuple ⟨[.agg ⟨o⟩,.b false]⟩))))) (ld ((⟨c,0,none⟩:Addr).add 0) (xI .i64 λp=>br ((de .i64 .and p 1)!=g) (cu True (cu (4=4) (jU (⟨a,0,none⟩:Addr) [.i 0,.i 0,.i 0,.i 0] (aJ (⟨a,0,none⟩:Addr) 4 λq=>K (.tuple ⟨[.agg ⟨q⟩,.b false]⟩))))) (aJ (⟨c,0,none⟩:Addr) 4 λe=>cu (e.length=4) (jU (⟨a,0,none⟩:Addr) e (aJ (⟨a,0,none⟩:Addr) 4 λr=>K (.tuple ⟨[.agg ⟨r⟩,.b true]⟩))))))))) m) l)))
def pA(e:OA)(b:Int)(K:VK):WK:=mk [.i 0,.i 0,.i 0,.i 0] λc=>kk e b (x2 λf g=>(xS λh=>(xI .i64 λj=>l6 h (x2 λk l=>(xA 3 λd=>(xB λm=>mk [.i 0,.i 0,.s .empty] λa=>cu (d.length=3) (jU (⟨a,0,none⟩:Addr) d (br (j !=0) (pA.j1 K c a b true) (br (!m) (pA.j1 K c a b true) (ld ((⟨a,0,none⟩:Addr).add 1) (xI .i64 λn=>pA.j1 K c a b (n !=0))))))) l) k)) g) f)
def rU(f:OA)(K:VK):WK:=mk [.i 0,.i 0,.i 0,.i 0] λa=>pA f 0 (x2 λn o=>(xA 4 λg=>(xB λe=>mk [.i 0,.i 0,.i 0,.i 0] λc=>cu (g.length=4) (jU (⟨c,0,none⟩:Addr) g (pA f 1 (x2 λp q=>(xA 4 λh=>(xB λr=>mk [.i 0,.i 0,.i 0,.i 0] λd=>cu (h.length=4) (jU (⟨d,0,none⟩:Addr) h (br r (br (!e) (aJ (⟨d,0,none⟩:Addr) 4 λj=>cu (j.length=4) (jU (⟨a,0,none⟩:Addr) j (aJ (⟨a,0,none⟩:Addr) 4 λs=>K (.tuple ⟨[.agg ⟨s⟩,.b true]⟩)))) (ld ((⟨d,0,none⟩:Addr).add 0) (xI .i64 λt=>ld ((⟨c,0,none⟩:Addr).add 0) (xI .i64 λu=>br (decide (t>u)) (aJ (⟨d,0,none⟩:Addr) 4 λk=>cu (k.length=4) (jU (⟨a,0,none⟩:Addr) k (aJ (⟨a,0,none⟩:Addr) 4 λv=>K (.tuple ⟨[.agg ⟨v⟩,.b true]⟩)))) (aJ (⟨c,0,none⟩:Addr) 4 λl=>cu (l.length=4) (jU (⟨a,0,none⟩:Addr) l (aJ (⟨a,0,none⟩:Addr) 4 λw=>K (.tuple ⟨[.agg ⟨w⟩,.b e]⟩)))))))) (aJ (⟨c,0,none⟩:Addr) 4 λm=>cu (m.length=4) (jU (⟨a,0,none⟩:Addr) m (aJ (⟨a,0,none⟩:Addr) 4 λx=>K (.tuple ⟨[.agg ⟨x⟩,.b e]⟩))))))) q) p)))) o) n)
def rP(d:OA)(a c:Int)(K:VK):WK:=br (decide (a>=0)) (br (decide (a<c)) (fE d (xI .i64 λe=>K (.b (decide (c<=e))))) (K (.b false))) (K (.b false))
def cF(a:OA)(K:VK):WK:=br (!(a.isNone)) (nn a λc=>ld (c.add 1) (xB λd=>K (.b d))) (K (.b false))
def cF.u:WP|[.pointer a],K=>cF a K|_,_=>no
def fV.j2(K:VK)(d:Nat)(e:OA)(a f c:Int)(g:Bool):WK:=br g (K (.tuple ⟨[.s .empty,.i 0,.b false]⟩)) (ld ((⟨d,0,none⟩:Addr).add 0) (xI .i64 λh=>jc e a f h (aa.wrap (12+c)) (x2 λj k=>(xS λl=>(xB λm=>br (!m) (K (.tuple ⟨[.s .empty,.i 0,.b false]⟩)) (tick (mG l (some 12) none λn=>mF (aa.wrap (12+c)) (xI .i64 λo=>K (.tuple ⟨[.s n,.i (aa.wrap (a+o)),.b true]⟩))))) k) j)))
def fV.j1(K:VK)(c:OA)(d:Nat)(e:OA)(f g:Int)(h:Bool):WK:=br h (K (.tuple ⟨[.s .empty,.i 0,.b false]⟩)) (aL c 4 (xI .i64 λa=>cF c (xB λj=>br j (fV.j2 K d e f g a true) (fV.j2 K d e f g a (decide (a>32768))))))
def fV(d:OA)(c e h:Int)(K:VK):WK:=br (decide (c>=e)) (K (.tuple ⟨[.s .empty,.i 0,.b false]⟩)) (kk d c (x2 λj k=>(xS λl=>(xI .i64 λt=>l6 l (x2 λm n=>(xA 3 λg=>(xB λo=>mk [.i 0,.i 0,.s .empty] λa=>cu (g.length=3) (jU (⟨a,0,none⟩:Addr) g (ld ((⟨a,0,none⟩:Addr).add 2) (xS λp=>oB p (xP λf=>aL f 8 (xI .i64 λq=>br (!o) (fV.j1 K f a d c e true) (ld ((⟨a,0,none⟩:Addr).add 1) (xI .i64 λr=>br (r !=0) (fV.j1 K f a d c e true) (fV.j1 K f a d c e (q !=h)))))))))) n) m)) k) j))
def kW.j1(K:VK)(o:OA)(q r z:Int)(A:Bool):WK:=br A (K (.tuple ⟨[.p none,.l none 0 0,.i 1]⟩)) (cu (1=1/\(1=1/\(1=1/\(1=1/\(1=1/\True))))) (mk [.p o,.i q,.i r,.i q,.i z,.b false] λB=>(λC=>∃(m:LV->World->Prop)(t:LV->World->Nat),m [.p none,.l none 0 0,.i 0,.p (some (⟨B,0,none⟩:Addr)),.l none 0 0] C/\∀(c:OA)(d:OA)(e:Nat)(f:Nat)(g:Int)(a:Addr)(h:OA)(j:Nat)(k:Nat)(n:World),m [.p c,.l d e f,.i g,.p (some a),.l h j k] n->(tick (ld (a.add 3) (xI .i64 λD=>ld (a.add 4) (xI .i64 λu=>fV o D r (aa.wrap (u+1)) (x3 λE F G=>(xS λH=>(xI .i64 λI=>(xB λJ=>kp (a.add 4) [.i u] (br (!J) (K (.tuple ⟨[.p (some a),.l h j k,.i 0]⟩)) (cu (1=1/\True) (mk [.s H] λM=>iN 1 16 [.s .empty] h j k (ah M) 1 λv w x=>ld (a.add 4) (xI .i64 λO=>st (a.add 3) (.i I) (st (a.add 4) (.i (aa.wrap (O+1))) ((λy=>m [.p c,.l d e f,.i g,.p (some a),.l v w x] y/\t [.p c,.l d e f,.i g,.p (some a),.l v w x] y<t [.p c,.l d e f,.i g,.p (some a),.l h j k] n)))))))) G) F) E))))) n)))
def kW(a:OA)(c d b:Int)(K:VK):WK:=br (a.isNone) (K (.tuple ⟨[.p none,.l none 0 0,.i 2]⟩)) (rP a c d (xB λe=>br (!e) (kW.j1 K a c d b true) (br (decide (b<0)) (kW.j1 K a c d b true) (kW.j1 K a c d b (decide (b>1152921504606846976))))))
def jK(a:OA)(c:Int)(K:VK):WK:=tick (br (!(a.isNone)) (br (decide (c>=0)) (br (decide (c<=32768)) (nn a λd=>ld (d.add 2) (xI .i64 λe=>nn a λf=>ld (f.add 3) (xI .i64 λg=>mF (aa.wrap (12+c)) (xI .i64 λh=>kp (f.add 3) [.i g] (kp (d.add 2) [.i e] (K (.b (decide (h<=(aa.wrap (e-g))))))))))) (K (.b false))) (K (.b false))) (K (.b false)))
def s7(c:Int)(b:BA)(K:VK):WK:=cu True (mk [.l none 0 0] λa=>bu (some (⟨a,0,none⟩:Addr)) 8 c (x0 (bu (some (⟨a,0,none⟩:Addr)) 4 (b.size:Int) (x0 (lY (some (⟨a,0,none⟩:Addr)) b (x0 (dG (some (⟨a,0,none⟩:Addr)) (xS λd=>K (.s d)))))))))
def cy.j3(K:VK)(a:OA)(f:BA)(c:Int):WK:=br (c !=0) (nn a λg=>st (g.add 5) (.b true) (K (.i c))) (tick (nn a λd=>ld (d.add 3) (xI .i64 λe=>mF (aa.wrap (12+(f.size:Int))) (xI .i64 λh=>kp (d.add 3) [.i e] (nn a λj=>st (j.add 3) (.i (aa.wrap (e+h))) (nn a λk=>ld (k.add 4) (xI .i64 λl=>nn a λm=>st (m.add 4) (.i (aa.wrap (l+1))) (K (.i 0)))))))))
def cy.j2(K:VK)(a:OA)(b:BA)(m:Int)(n:Bool):WK:=br n (K (.i 6)) (tick (nn a λe=>ld (e.add 0) (xP λf=>nn a λg=>ld (g.add 3) (xI .i64 λh=>nn a λj=>ld (j.add 2) (xI .i64 λk=>nn a λc=>ld (c.add 4) (xI .i64 λd=>s7 (aa.wrap (d+1)) b (xS λo=>kp (c.add 4) [.i d] (kp (j.add 2) [.i k] (kp (g.add 3) [.i h] (kp (e.add 0) [.p f] (lJ f h k m o (xI .i64 λl=>kp (c.add 4) [.i d] (br (l==0) (nn a λq=>ld (q.add 0) (xP λr=>lM r (xI .i64 λs=>cy.j3 K a b s))) (cy.j3 K a b l))))))))))))))
def cy.j1(K:VK)(a:OA)(b:BA)(c:Int)(d:Bool):WK:=br d (K (.i 1)) (jK a (b.size:Int) (xB λe=>br (!e) (cy.j2 K a b c true) (nn a λf=>ld (f.add 4) (xI .i64 λg=>cy.j2 K a b c (decide (g>=1152921504606846976))))))
def cy(a:OA)(b:Int)(c:BA)(K:VK):WK:=br (a.isNone) (K (.i 2)) (nn a λd=>ld (d.add 5) (xB λe=>br e (K (.i 9)) (br (decide (b<1)) (cy.j1 K a c b true) (cy.j1 K a c b (decide (b>1152921504606846976))))))
def ml(a:OA)(K:VK):WK:=br (a.isNone) (K (.i 0)) (nn a λb=>ld (b.add 4) (xI .i64 λc=>K (.i c)))
def jL(a:OA)(K:VK):WK:=br (!(a.isNone)) (nn a λb=>ld (b.add 1) (xI .i64 λc=>nn a λd=>st (d.add 3) (.i c) (K (.tuple ⟨[]⟩)))) (K (.tuple ⟨[]⟩))
end Go.Prog
namespace Go.Prog.N
abbrev nR:Nat:=63
abbrev fI:Nat:=257
abbrev fj:Nat:=283
abbrev eE:Nat:=313
abbrev eu:Nat:=315
abbrev fH:Nat:=256
abbrev eo:Nat:=261
abbrev ef:Nat:=228
abbrev dZ:Nat:=308
abbrev gU:Nat:=177
abbrev ma:Nat:=178
abbrev gw:Nat:=180
abbrev jF:Nat:=217
abbrev yW:Nat:=1
abbrev tE:Nat:=0
abbrev ov:Nat:=181
abbrev N5:Nat:=229
abbrev fL:Nat:=253
abbrev aL:Nat:=61
abbrev cV:Nat:=66
abbrev cF:Nat:=109
abbrev cE:Nat:=208
abbrev cD:Nat:=319
abbrev cZ:Nat:=210
abbrev cY:Nat:=321
abbrev mP:Nat:=65
end Go.Prog.N
