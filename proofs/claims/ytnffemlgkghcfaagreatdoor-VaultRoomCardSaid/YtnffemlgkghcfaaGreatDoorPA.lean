/- Part of the proof: see the last text. -/
import Derived.OrdersHeld
import Derived.Calls
import Derived.KernelRfl
import Derived.Laws.Append
import Derived.Laws.CopyRow
import Derived.Tactics
import Derived.WalkKit
import Derived.Laws.BytesString
import Derived.Laws.MakeOwn
import Derived.Below
import Derived.Lib.Builder
import Derived.Lib.UnsafeStr
set_option linter.all false
set_option maxRecDepth 100000
set_option synthInstance.maxSize 100000
open Array renaming replicate→aeI,ext'→afc
open Bool renaming false_eq_true→ad0,and_eq_true→aet,false_ne_true→ad4,true_and→aeC
open Go.IntKind renaming i64→adx
open Int renaming toNat_natCast→adB
open List renaming range→ae7,map_cons→aeb,getElem?_eq_getElem→adA,getElem?_eq_none→aeB,append_assoc→adI,take_append_drop→ad5,nil_append→aed,drop_drop→aeK,cons_append→aeN,map_nil→afa,getElem?_eq_some_iff→adC,getElem?_map→aen,mem_cons_of_mem→aeE,drop_zero→aeJ,getElem?_range→ae3,getElem?_cons_succ→adR,mem_of_find?_eq_some→aey,mem_cons→aeS,Perm→ad2,length_cons→adW,getElem?_append_left→adY,getElem?_append_right→aea,set_set→aeO,set_cons_succ→aeP,getElem?_drop→aeQ,ext_getElem?→aeV,length_append→adD,length_drop→adM,append_nil→adV,map_append→ad8,drop_of_length_le→aeh,mem_map→aek,map_congr_left→aeR,map_map→afb,replicate→adQ,drop_eq_getElem_cons→aef,take_length→adN,length_map→ad1,mem_of_getElem?→ad3,take_succ_eq_append_getElem→aeu,length_nil→ad6,getElem?_set→ad7,length_singleton→aeZ
open Nat renaming beq→aeX,eq_of_beq_eq_true→ad',zero_le→adK,add_zero→aev,le_of_ble_eq_true→adH,le_refl→adG,zero_add→adE,mul_le_mul_right→aem,add_mul→aeU,reduceAdd→ady,reduceMul→adz,mul_one→ae8
open Option renaming some→adU
namespace Go
abbrev OA:=Option Addr
abbrev LV:=List Value
abbrev BA:=ByteArray
abbrev Value.i(n:Int):Value:=.int .i64 n
abbrev Value.u(n:Int):Value:=.int .u64 n
abbrev Value.p(a:OA):Value:=.pointer a
abbrev Value.l(a:OA)(n c:Nat):Value:=.slice a n c
end Go
namespace Go.Den
abbrev Env:=List (Nat×Value)
abbrev WK:=World→Prop
abbrev VK:=Value→World→Prop
abbrev WP:=LV→VK→WK
abbrev Ek:=List (Nat×WP)
def lk:Env→Nat→Option Value
 |[],_=>none
 |(s,v)::e,t=>bif aeX s t then some v else lk e t
def no:WK:=fun _=>False
def ev(e:Env):Operand→Option Value
 | .tmp t=>lk e t
 | .const v=>some v
 | .global g=>some (.pointer (some ⟨g,0,none⟩))
 | .func f=>some (.func (.func f) #[] #[])
def K1(e:Env):List Operand→Option (LV)
 |[]=>some []
 |x::xs=>match ev e x with
  |some v=>match K1 e xs with
   |some vs=>some (v::vs)
   |none=>none
  |none=>none
def bl(p:Prop)(K:WK):WK:=fun w=>p∧K w
def br(b:Bool)(X Y:WK):WK:=match b with|true=>X|false=>Y
def nn(p:OA)(K:Addr→WK):WK:=match p with|some a=>K a|none=>no
def xI(k:IntKind)(K:Int→WK):VK:=fun v w=>∃n,v=.int k n∧K n w
def xB(K:Bool→WK):VK:=fun v w=>∃b,v=.bool b∧K b w
def xS(K:BA→WK):VK:=fun v w=>∃s,v=.string s∧K s w
def xP(K:OA→WK):VK:=fun v w=>∃p,v=.pointer p∧K p w
def xL(K:OA→Nat→Nat→WK):VK:=fun v w=>∃b n c,v=.slice b n c∧K b n c w
def xA(n:Nat)(K:LV→WK):VK:=fun v w=>∃cs,v=.agg ⟨cs⟩∧cs.length=n∧K cs w
def G3(z:Value)(K:VK):VK:=match z with
 | .int k _=>xI k fun n=>K (.int k n)
 | .bool _=>xB fun b=>K (.bool b)
 | .string _=>xS fun s=>K (.string s)
 | .pointer _=>xP fun p=>K (.pointer p)
 | .slice _ _ _=>xL fun b n c=>K (.slice b n c)
 | .agg zs=>xA zs.size fun cs=>K (.agg ⟨cs⟩)
 |_=>K
def x0(K:WK):VK:=fun v w=>v=.tuple ⟨[]⟩∧K w
def x2(K:Value→Value→WK):VK:=fun v w=>∃a b,v=.tuple ⟨[a,b]⟩∧K a b w
def x3(K:Value→Value→Value→WK):VK:=fun v w=>∃a b c,v=.tuple ⟨[a,b,c]⟩∧K a b c w
def xT(z:Value)(K:VK):VK:=match z with
 | .tuple zs=>match zs.toList with
   |[]=>x0 (K (.tuple ⟨[]⟩))
   |[y,z]=>x2 fun a b=>G3 y (fun a=>G3 z (fun b=>K (.tuple ⟨[a,b]⟩)) b) a
   |[x,y,z]=>x3 fun a b c=>G3 x (fun a=>G3 y (fun b=>G3 z (fun c=>K (.tuple ⟨[a,b,c]⟩)) c) b) a
   |_=>fun _=>no
 |z=>G3 z K
def YI(z:Value)(f:Value→Prop):Prop:=match z with
 | .int k _=>∀n,f (.int k n)
 | .bool _=>∀b,f (.bool b)
 | .string _=>∀s,f (.string s)
 | .pointer (some _)=>∀a,f (.pointer (some a))
 | .pointer none=>∀p,f (.pointer p)
 | .slice _ _ _=>∀b n c,f (.slice b n c)
 | .agg _=>∀cs:LV,f (.agg ⟨cs⟩)
 |_=>∀v,f v
def By:LV→(LV→Prop)→Prop
 |[],f=>f []
 |z::zs,f=>YI z fun v=>By zs fun vs=>f (v::vs)
def fits(z v:Value):Bool:=match z,v with
 | .int k _,.int k' _=>decide (k=k')
 | .bool _,.bool _=>true
 | .string _,.string _=>true
 | .pointer none,.pointer _=>true
 | .pointer (some _),.pointer (some _)=>true
 | .slice _ _ _,.slice _ _ _=>true
 | .agg _,.agg _=>true
 | .int _ _,_=>false
 | .bool _,_=>false
 | .string _,_=>false
 | .pointer _,_=>false
 | .slice _ _ _,_=>false
 | .agg _,_=>false
 |_,_=>true
def ld(a:Addr)(K:VK):WK:=fun w=>∃v,w.cell? a=some v∧K v w
def ta(w:World)(a:Addr)(cs:LV):Prop:=∀j v,cs[j]?=some v→w.cell? (a.add j)=some v
def aj(a:Addr)(n:Nat)(K:LV→WK):WK:=fun w=>∃cs,cs.length=n∧ta w a cs∧K cs w
def st(a:Addr)(v:Value)(K:WK):WK:=fun w=>v.oneCell'=true∧(∃o,w.cell? a=some o)∧w.frozen? a=false∧K (w.setCell a v)
def u5(w:World)(a:Addr)(i:Nat):LV→World
 |[]=>w
 |v::r=>u5 (w.setCell (a.add i) v) a (i+1) r
def sU(w:World)(a:Addr)(i:Nat)(cs:LV):Prop:=
 (∀v∈cs,v.oneCell'=true)∧∀j,j<cs.length→(∃o,w.cell? (a.add (i+j))=some o)∧w.frozen? (a.add (i+j))=false
def iN(a:Addr)(cs:LV)(K:WK):WK:=fun w=>sU w a 0 cs∧K (u5 w a 0 cs)
def mk(cs:LV)(K:Nat→WK):WK:=fun w=>∀t,K w.heap.size (w.alloc (.cells ⟨cs⟩ t))
def WC(t:TypeId)(cs:LV)(K:Nat→WK):WK:=fun w=>K w.heap.size (w.alloc (.cells ⟨cs⟩ t))
def tick(K:WK):WK:=fun w=>K w.drew
def Gp(T:Ek)(f:Nat):WP:=match T with
 |[]=>fun _ _=>no
 |(g,p)::r=>bif aeX g f then p else Gp r f
def iO(b:OA)(len:Nat)(i:Int)(size:Nat)(K:Addr→WK):WK:=
 fun w=>∃a,b=some a∧(0≤i∧i<len)∧K (a.add (i.toNat* size)) w
def uQ(s:BA)(i:Int)(K:UInt8→WK):WK:=fun w=>∃c,(0≤i∧s.data.toList[i.toNat]?=some c)∧K c w
def yq(cs:LV)(len:Nat)(i:Int)(K:VK):WK:=fun w=>∃v,(0≤i∧i<len∧cs[i.toNat]?=some v)∧K v w
def tA(b:OA)(cap l size:Nat):OA:=if cap=l then b else b.map (·.add (l* size))
def oC(b:OA)(len cap size:Nat)(lo hi:Option Int)(K:OA→Nat→Nat→WK):WK:=
 match hi with
 |none=>match lo with
  |none=>K (tA b cap 0 size) len cap
  |some l=>bl (0≤l∧l≤len) (K (tA b cap l.toNat size) (len-l.toNat) (cap-l.toNat))
 |some h=>bl (0≤h∧h≤cap) (match lo with
  |none=>K (tA b cap 0 size) h.toNat cap
  |some l=>bl (0≤l∧l≤h) (K (tA b cap l.toNat size) (h.toNat-l.toNat) (cap-l.toNat)))
def kD(s:BA)(lo hi:Option Int)(K:BA→WK):WK:=
 match hi with
 |none=>match lo with
  |none=>K (s.extract 0 s.size)
  |some l=>bl (0≤l∧l≤s.size) (K (s.extract l.toNat s.size))
 |some h=>bl (0≤h∧h≤s.size) (match lo with
  |none=>K (s.extract 0 h.toNat)
  |some l=>bl (0≤l∧l≤h) (K (s.extract l.toNat h.toNat)))
def Src(w:World)(n size:Nat)(b:OA)(cs:LV):Prop:=
 cs.length=n* size∧∀a,b=some a→ta w a cs
def strCells(s:BA):LV:=s.data.toList.map fun c=>.int .u8 c.toNat
def Rj(size bytes:Nat)(zero:LV)(b:OA)(len cap n:Nat)(new:LV)(K:OA→Nat→Nat→WK):WK:=fun w=>
 (len+n≤cap→(∀a,b=some a→sU w (a.add (len* size)) 0 new∧K b (len+n) cap (u5 w (a.add (len* size)) 0 new))∧(b=none→K b (len+n) cap w))∧
 (cap<len+n→(len+n)* bytes≤140737488355328∧(len+n:Nat)≤(9223372036854775807:Int)∧∃old,Src w len size b old∧(b=none→len=0)∧
  ∀c' t,len+n≤c'→K (some ⟨w.heap.size,0,none⟩) (len+n) c' (w.drew.alloc (.cells ((old++new).toArray++Builtin.zeroCells ⟨zero⟩ (c'-(len+n))) t)))
def gj(size bytes:Nat)(zero:LV)(b:OA)(len cap:Nat)(b':OA)(n:Nat)(K:OA→Nat→Nat→WK):WK:=fun w=>
 ∃new,Src w n size b' new∧(b'=none→n=0)∧Rj size bytes zero b len cap n new K w
def Bx(b:OA)(len cap:Nat)(s:BA)(K:OA→Nat→Nat→WK):WK:=
 Rj 1 1 [.int .u8 0] b len cap s.size (strCells s) K
def bytesOf(cs:LV):List UInt8:=cs.map fun| .int _ n=>UInt8.ofNat n.toNat|_=>0
def Rg(b:OA)(n:Nat)(K:BA→WK):WK:=fun w=>
 (b=none→K .empty w)∧∀a,b=some a→∃cs,cs.length=n∧ta w a cs∧(∀v∈cs,∃m,v=.int .u8 m)∧K ⟨⟨bytesOf cs⟩⟩ w
def YO(s:BA)(K:Nat→Nat→WK):WK:=fun w=>
 ∀c t,s.size≤c→K w.heap.size c ((w.drew.alloc (.cells ((strCells s).toArray++aeI (c-s.size) (.int .u8 0)) t)).freeze ⟨w.heap.size,c,none⟩ 1)
def Fx(bytes:Nat)(zero:LV)(len cap:Int)(K:OA→Nat→Nat→WK):WK:=fun w=>
 (0≤len∧len≤cap∧cap≤9223372036854775807∧cap* bytes≤281474976710656)∧
 ∀t,K (some ⟨w.heap.size,0,none⟩) len.toNat cap.toNat (w.alloc (.cells (Builtin.zeroCells ⟨zero⟩ cap.toNat) t))
def NV(size:Nat)(b:OA)(len:Nat)(b':OA)(Qj:Nat)(K:Nat→WK):WK:=fun w=>
 ∃new,Src w (min Qj len) size b' new∧(b'=none→min Qj len=0)∧(b=none→K (min Qj len) w)∧∀a,b=some a→sU w a 0 new∧K (min Qj len) (u5 w a 0 new)
def Q5(cs:LV)(b:OA)(len:Nat)(K:WK):WK:=fun w=>
 (b=none∨len=0→K w)∧∀a,b=some a→len≠0→sU w a 0 cs∧K (u5 w a 0 cs)
def s9(T:Ek)(v:Value)(args:LV)(K:VK):WK:=match v with
 | .func (.func g) first cap=>Gp T g (first.toList++args++cap.toList) K
 |_=>no
def RZ(v:Value)(K:VK):WK:=match v with
 | .pointer p=>nn p fun a=>K (.pointer (some a))
 | .func (.func g) first cap=>K (.func (.func g) first cap)
 |_=>no
end Go.Den
namespace Go.Den
def bG(k:IntKind)(op:BinOp)(x y:Int):Int:=
 match op with
 | .and=>k.wrap ((BitVec.ofInt k.bits x&&&BitVec.ofInt k.bits y).toNat)
 | .or=>k.wrap ((BitVec.ofInt k.bits x|||BitVec.ofInt k.bits y).toNat)
 | .xor=>k.wrap ((BitVec.ofInt k.bits x^^^BitVec.ofInt k.bits y).toNat)
 |_=>k.wrap ((BitVec.ofInt k.bits x&&&~~~BitVec.ofInt k.bits y).toNat)
def shl(k:IntKind)(x y:Int):Int:=k.wrap (x* 2^(min y.toNat k.bits))
def shr(k:IntKind)(x y:Int):Int:=x.fdiv (2^(min y.toNat k.bits))
def AU(op:BinOp)(k:IntKind)(x y:Int)(K:VK):WK:=
 match op with
 | .add=>K (.int k (k.wrap (x+y)))
 | .sub=>K (.int k (k.wrap (x-y)))
 | .mul=>K (.int k (k.wrap (x* y)))
 | .quo=>bl (y≠0) (K (.int k (k.wrap (x.tdiv y))))
 | .rem=>bl (y≠0) (K (.int k (x.tmod y)))
 | .and=>K (.int k (bG k .and x y))
 | .or=>K (.int k (bG k .or x y))
 | .xor=>K (.int k (bG k .xor x y))
 | .andNot=>K (.int k (bG k .andNot x y))
 | .eql=>K (.bool (x==y))
 | .neq=>K (.bool (x !=y))
 | .lss=>K (.bool (decide (x<y)))
 | .leq=>K (.bool (decide (x≤y)))
 | .gtr=>K (.bool (decide (x>y)))
 | .geq=>K (.bool (decide (x≥y)))
 | .shl=>bl (0≤y) (K (.int k (shl k x y)))
 | .shr=>bl (0≤y) (K (.int k (shr k x y)))
def pq(x y:BA):Bool:=x.toList==y.toList
def Hb(op:BinOp)(x y:BA)(K:VK):WK:=
 match op with
 | .add=>bl (((x.size+y.size:Nat):Int)≤9223372036854775807) (K (.string (x++y)))
 | .eql=>K (.bool (pq x y))
 | .neq=>K (.bool (!pq x y))
 |_=>no
abbrev OF:=List (Nat×LV)
def C8:OF→Nat→Option (LV)
 |[],_=>none
 |(t,z)::r,u=>bif aeX t u then some z else C8 r u
def lM:LV→LV→Bool
 |[],[]=>true
 |z::zs,v::vs=>fits z v&&lM zs vs
 |_,_=>false
def vm(x y:Value):Bool:=match x,y with
 | .int _ a,.int _ b=>a==b
 | .bool a,.bool b=>a==b
 | .string a,.string b=>pq a b
 |_,_=>false
def gT:LV→LV→Bool
 |[],[]=>true
 |x::xs,y::ys=>vm x y&&gT xs ys
 |_,_=>false
def oa(zs xs ys:LV)(K:Bool→WK):WK:=fun w=>(lM zs xs=true∧lM zs ys=true)∧K (gT xs ys) w
def Ig(P:Program)(E:OF)(op:BinOp)(t:TypeId)(x y:Value)(K:VK):WK:=
 match x,y with
 | .int k a,.int k' b=>match op with
   | .shl=>AU .shl k a b K
   | .shr=>AU .shr k a b K
   |op=>bif decide (k=k') then AU op k a b K else no
 | .string a,.string b=>Hb op a b K
 | .bool a,.bool b=>match P.underlying t,op with
   |some .bool,.eql=>K (.bool (a==b))
   |some .bool,.neq=>K (.bool (!(a==b)))
   |_,_=>no
 | .pointer p,.pointer none=>match P.underlying t,op with
   |some (.pointer _),.eql=>K (.bool p.isNone)
   |some (.pointer _),.neq=>K (.bool (!p.isNone))
   |_,_=>no
 | .slice p _ _,.slice none _ _=>match P.underlying t,op with
   |some (.slice _),.eql=>K (.bool p.isNone)
   |some (.slice _),.neq=>K (.bool (!p.isNone))
   |_,_=>no
 | .agg xs,.agg ys=>match C8 E t,op with
   |some zs,.eql=>oa zs xs.toList ys.toList fun b=>K (.bool b)
   |some zs,.neq=>oa zs xs.toList ys.toList fun b=>K (.bool (!b))
   |_,_=>no
 |_,_=>no
def Mb(op:UnOp)(x:Value)(K:VK):WK:=
 match op,x with
 | .not,.bool b=>K (.bool (!b))
 | .neg,.int k n=>K (.int k (k.wrap (0-n)))
 | .xor,.int k n=>K (.int k (bG k .xor (if k.signed then-1 else k.max) n))
 |_,_=>no
def zC(P:Program)(s d:TypeId)(x:Value)(K:VK):WK:=
 match P.underlying s with
 |none=>no
 |some sd=>match P.underlying d,x with
  |some (.int k),.int _ n=>K (.int k (k.wrap n))
  |some .string,.string _=>K x
  |some (.slice e),.string b=>match P.underlying e with
   |some (.int .u8)=>YO b fun r c=>K (.slice (some ⟨r,0,none⟩) b.size c)
   |_=>no
  |some .string,.slice p n _=>match sd with
   | .slice e=>match P.underlying e with
     |some (.int .u8)=>Rg p n fun b=>K (.string b)
     |_=>no
   |_=>no
  |_,_=>no
def zeroOf(P:Program)(t:TypeId):Option Value:=
 match P.info? t with
 |some i=>i.zero
 |none=>none
def dg(v:Value):LV:=match v with| .agg cs=>cs.toList|v=>[v]
def pF(d:TypeDesc):Bool:=match d with| .struct _| .array _ _=>true|_=>false
def vZ(r:Nat):Value:=.pointer (some ⟨r,0,none⟩)
def Cq(P:Program)(t:TypeId):Bool:=
 match P.underlying t with
 |some (.struct fs)=>match fs.toList with
  |[f,g]=>match P.underlying f.type,P.underlying g.type with
   |some (.pointer e),some (.slice _)=>aeX e t
   |_,_=>false
  |_=>false
 |_=>false
def wo(P:Program)(t:TypeId)(a:Addr)(K:LV→VK):WK:=
 match P.underlying t,P.info? t with
 |some d,some i=>bif pF d then aj a i.size fun cs=>K cs (.agg ⟨cs⟩) else
                  match i.zero with
                  |some z=>ld a (G3 z fun v=>K [v] v)
                  |none=>no
 |_,_=>no
def Ab(P:Program)(t:TypeId)(a:Addr)(v:Value)(K:VK):WK:=
 match P.info? t with
 |some i=>match v with
  | .agg cs=>bl (cs.toList.length=i.size) (iN a cs.toList (K undef))
  |v=>bif aeX i.size 1 then st a v (K undef) else no
 |none=>no
def qq(zero:LV):List (Nat×Nat)→Nat→Nat→List (Nat×LV)→Option (LV×Prop)
 |[],at_,_,ps=>bif aeX at_ zero.length then(match ps with|[]=>some ([],True)|_=>none) else none
 |(off,n)::fs,at_,i,ps=>bif aeX off at_ then
                         (match ps with
                         |[]=>match qq zero fs (at_+n) (i+1) [] with
                          |some (r,p)=>some ((zero.drop off).take n++r,p)
                          |none=>none
                         |(j,cs)::ps'=>bif aeX i j then
                            match qq zero fs (at_+n) (i+1) ps' with
                            |some (r,p)=>some (cs++r,cs.length=n∧p)
                            |none=>none
                          else match qq zero fs (at_+n) (i+1) ps with
                           |some (r,p)=>some ((zero.drop off).take n++r,p)
                           |none=>none)
  else none
def sq(P:Program):List Field→Option (List (Nat×Nat))
 |[]=>some []
 |f::fs=>match P.info? f.type,sq P fs with
  |some i,some r=>some ((f.offset,i.size)::r)
  |_,_=>none
def Bq(P:Program)(t:TypeId)(parts:List (Nat×Value))(K:VK):WK:=
 match zeroOf P t,P.underlying t with
 |some (.agg z),some (.struct fs)=>match sq P fs.toList with
  |some pl=>match qq z.toList pl 0 0 (parts.map fun p=>(p.1,dg p.2)) with
   |some (cs,p)=>bl p (K (.agg ⟨cs⟩))
   |none=>no
  |none=>no
 |some (.agg z),some (.array n e)=>match P.info? e with
  |some i=>match qq z.toList ((ae7 n).map fun j=>(j* i.size,i.size)) 0 0 (parts.map fun p=>(p.1,dg p.2)) with
   |some (cs,p)=>bl p (K (.agg ⟨cs⟩))
   |none=>no
  |none=>no
 |_,_=>no
def vr(P:Program)(t:TypeId)(len:Nat)(parts:List (Nat×Value))(K:VK):WK:=
 match P.underlying t with
 |some (.slice e)=>match P.info? e with
  |some i=>match i.zero with
   |some z=>bif Nat.ble (len* i.size) 16777216&&Nat.blt 0 i.size&&aeX (dg z).length i.size then
             match qq (Builtin.zeroCells ⟨dg z⟩ len).toList ((ae7 len).map fun j=>(j* i.size,i.size)) 0 0 (parts.map fun p=>(p.1,dg p.2)) with
             |some (cs,p)=>bl p (mk cs fun r=>K (.slice (some ⟨r,0,none⟩) len len))
             |none=>no
    else no
   |none=>no
  |none=>no
 |_=>no
def D8(e:Env):List (Nat×Operand)→Option (List (Nat×Value))
 |[]=>some []
 |(i,x)::r=>match ev e x,D8 e r with
  |some v,some vs=>some ((i,v)::vs)
  |_,_=>none
def Pb(e:Env):Option Operand→Option (Option Int)
 |none=>some none
 |some x=>match ev e x with
  |some (.int _ n)=>some (some n)
  |_=>none
def Ac(P:Program)(t:TypeId)(x:Value)(lo hi:Option Int)(K:VK):WK:=
 match P.underlying t,x with
 |some .string,.string s=>kD s lo hi fun r=>K (.string r)
 |some (.slice e),.slice b n c=>match P.info? e with
  |some i=>oC b n c i.size lo hi fun b n c=>K (.slice b n c)
  |none=>no
 |some (.array n e),.pointer (some a)=>match P.info? e with
  |some i=>oC (some a) n n i.size lo hi fun b n c=>K (.slice b n c)
  |none=>no
 |_,_=>no
def sE(P:Program)(t:TypeId)(x i:Value)(K:VK):WK:=
 match P.underlying t,x,i with
 |some (.slice e),.slice b n _,.int _ j=>match P.info? e with
  |some i=>iO b n j i.size fun a=>K (.pointer (some a))
  |none=>no
 |some (.array n e),.pointer (some a),.int _ j=>match P.info? e with
  |some i=>bl (0≤j∧j<n) (K (.pointer (some (a.add (j.toNat* i.size)))))
  |none=>no
 |_,_,_=>no
def AV(P:Program)(t:TypeId)(x i:Value)(K:VK):WK:=
 match P.underlying t,x,i with
 |some .string,.string s,.int _ j=>uQ s j fun c=>K (.int .u8 c.toNat)
 |some (.array n e),.agg cs,.int _ j=>match P.underlying e,P.info? e with
  |some d,some i=>bif pF d then bl (0≤j∧j<n) (K (.agg ⟨(cs.toList.drop (j.toNat* i.size)).take i.size⟩))
   else bif aeX i.size 1 then match i.zero with
    |some z=>yq cs.toList n j (G3 z K)
    |none=>no
   else no
  |_,_=>no
 |_,_,_=>no
def Bc(P:Program)(t:TypeId)(x:Value)(f:Nat)(K:VK):WK:=
 match P.underlying t,x with
 |some (.struct fs),.agg cs=>match fs[f]? with
  |some fl=>match P.underlying fl.type,P.info? fl.type with
   |some d,some i=>bif pF d then K (.agg ⟨(cs.toList.drop fl.offset).take i.size⟩)
    else match i.zero with
     |some z=>fun w=>∃v,cs.toList[fl.offset]?=some v∧G3 z K v w
     |none=>no
   |_,_=>no
  |none=>no
 |_,_=>no
def sL(P:Program)(t:TypeId)(x:Value)(f:Nat)(K:VK):WK:=
 match P.underlying t,x with
 |some (.struct fs),.pointer (some a)=>match fs[f]? with
  |some fl=>match P.info? fl.type with
   |some i=>bif aeX i.size 0 then no else K (.pointer (some (a.add fl.offset)))
   |none=>no
  |none=>no
 |_,_=>no
def Hy(P:Program)(t:TypeId)(x:Value)(K:VK):WK:=
 match P.underlying t,x with
 |some .string,.string s=>K (.i s.size)
 |some (.slice _),.slice _ n _=>K (.i n)
 |some (.array n _),_=>K (.i n)
 |_,_=>no
def min2(x y:Int):Int:=if y<x then y else x
def max2(x y:Int):Int:=if y>x then y else x
def np:Int→LV→Option Int
 |x,[]=>some x
 |x,.int _ y::r=>np (min2 x y) r
 |_,_=>none
def AN:Int→LV→Option Int
 |x,[]=>some x
 |x,.int _ y::r=>AN (max2 x y) r
 |_,_=>none
def Ik(P:Program)(t u:TypeId)(s x:Value)(K:VK):WK:=
 match P.underlying t,s with
 |some (.slice e),.slice b n c=>match P.info? e with
  |some i=>match i.zero with
   |some z=>match P.underlying u,x with
    |some (.slice _),.slice b' m _=>gj i.size i.bytes (dg z) b n c b' m fun b n c=>K (.slice b n c)
    |some .string,.string y=>bif aeX i.size 1&&aeX i.bytes 1 then match z with
                              | .int .u8 0=>Bx b n c y fun b n c=>K (.slice b n c)
                              |_=>no
     else no
    |_,_=>no
   |none=>no
  |none=>no
 |_,_=>no
def vq(P:Program)(b:Builtin)(ts:List TypeId)(args:LV)(K:VK):WK:=
 match b,ts,args with
 | .len,t::_,[x]=>Hy P t x K
 | .min,_,.int k x::r=>match np x r with|some m=>K (.int k m)|none=>no
 | .max,_,.int k x::r=>match AN x r with|some m=>K (.int k m)|none=>no
 | .append,[t,u],[s,x]=>Ik P t u s x K
 | .copy,t::_,[.slice b n _,.slice b' m _]=>match P.underlying t with
   |some (.slice e)=>match P.info? e with
    |some i=>NV i.size b n b' m fun k=>K (.i k)
    |none=>no
   |_=>no
 | .clear,t::_,[.slice b n _]=>match P.underlying t with
   |some (.slice e)=>match P.info? e with
    |some i=>match i.zero with
     |some z=>Q5 (Builtin.zeroCells ⟨dg z⟩ n).toList b n (K (.tuple ⟨[]⟩))
     |none=>no
    |none=>no
   |_=>no
 | .cap,t::_,[.slice _ _ c]=>match P.underlying t with
   |some (.slice _)=>K (.i c)
   |_=>no
 |_,_,_=>no
def wQ(P:Program)(T:Ek)(e:Env)(c:Call)(ty:TypeId)(K:VK):WK:=
 match K1 e c.args.toList with
 |none=>no
 |some args=>match c.callee with
  | .builtin b=>vq P b c.argTypes.toList args K
  | .value f=>match ev e f with
    |some v=>match zeroOf P ty with
     |some z=>s9 T v args (xT z K)
     |none=>no
    |none=>no
  | .invoke _ _=>no
def tH(P:Program)(T:Ek)(E:OF)(e:Env)(op:Op)(ty:TypeId)(K:VK):WK:=
 match op with
 | .move x| .assign x=>match ev e x with|some v=>K v|none=>no
 | .pick c x y=>match ev e c with
   |some (.bool b)=>br b (match ev e x with|some v=>K v|none=>no) (match ev e y with|some v=>K v|none=>no)
   |_=>no
 | .alloc t=>match zeroOf P t with
   |some z=>bif Cq P t then WC t (dg z) fun r=>K (vZ r) else mk (dg z) fun r=>K (vZ r)
   |none=>no
 | .box _ x=>match ev e x with
   |some v=>mk (dg v) fun r=>K (vZ r)
   |none=>no
 | .build t ps=>match D8 e ps.toList with
   |some l=>Bq P t l K
   |none=>no
 | .buildSlice t n ps=>match D8 e ps.toList with
   |some l=>vr P t n l K
   |none=>no
 | .load t x=>match ev e x with
   |some (.pointer (some a))=>wo P t a fun _=>K
   |_=>no
 | .store t x y=>match ev e x,ev e y with
   |some (.pointer (some a)),some v=>Ab P t a v K
   |_,_=>no
 | .nilCheck x=>match ev e x with
   |some v=>RZ v K
   |none=>no
 | .binOp op t x y _=>match ev e x,ev e y with
   |some a,some b=>Ig P E op t a b K
   |_,_=>no
 | .unOp op _ x=>match ev e x with
   |some a=>Mb op a K
   |none=>no
 | .convert s d x=>match ev e x with
   |some a=>zC P s d a K
   |none=>no
 | .makeFunc fn first cap=>match K1 e first.toList,K1 e cap.toList with
   |some f,some c=>K (.func fn ⟨f⟩ ⟨c⟩)
   |_,_=>no
 | .makeSlice t n c=>match P.underlying t,ev e n,ev e c with
   |some (.slice el),some (.int _ n),some (.int _ c)=>match P.info? el with
    |some i=>match i.zero with
     |some z=>bif Nat.blt 0 i.size&&aeX (dg z).length i.size then Fx i.bytes (dg z) n c fun b n c=>K (.slice b n c) else no
     |none=>no
    |none=>no
   |_,_,_=>no
 | .slice t x lo hi none=>match ev e x,Pb e lo,Pb e hi with
   |some v,some l,some h=>Ac P t v l h K
   |_,_,_=>no
 | .fieldAddr t x f=>match ev e x with
   |some v=>sL P t v f K
   |none=>no
 | .field t x f=>match ev e x with
   |some v=>Bc P t v f K
   |none=>no
 | .indexAddr t x i=>match ev e x,ev e i with
   |some v,some j=>sE P t v j K
   |_,_=>no
 | .index t x i=>match ev e x,ev e i with
   |some v,some j=>AV P t v j K
   |_,_=>no
 | .extract x i=>match ev e x with
   |some (.tuple vs)=>match vs[i]? with
    |some v=>K v
    |none=>no
   |_=>no
 | .call c=>wQ P T e c ty K
 |_=>no
def cover:Env→Nat→Bool
 |C,d=>match lk C d with|none=>true|some _=>false
def pt(n:Nat)(C:Env)(e:Env)(d:Option Tmp)(v:Value)(K:Env→WK):WK:=
 match d with
 |none=>K e
 |some d=>bif Nat.blt d n&&cover C d then K ((d,v)::e) else no
structure Fn where
 P:Program
 T:Ek
 E:OF
 n:Nat
 C:Env
 Ll:List (Nat×List (Nat×Value))
def KY(ops:Array Oper)(j:Nat):Option Tmp:=match ops[j]? with|some o=>o.dst|none=>none
def Ii(a b:Bool):Bool:=match a,b with|true,true=>true|false,false=>true|_,_=>false
def RY(F:Fn)(ops:Array Oper)(o:Oper)(K:Env→WK)(e:Env):WK:=
 match o.guard with
 |none=>tH F.P F.T F.E e o.op o.type fun v=>pt F.n F.C e o.dst v K
 |some (j,want)=>match KY ops j with
  |none=>no
  |some d=>match lk e d with
   |some (.bool b)=>
    br b (bif Ii true want then tH F.P F.T F.E ((d,.bool true)::e) o.op o.type fun v=>pt F.n F.C ((d,.bool true)::e) o.dst v K else pt F.n F.C ((d,.bool true)::e) o.dst undef K)
     (bif Ii false want then tH F.P F.T F.E ((d,.bool false)::e) o.op o.type fun v=>pt F.n F.C ((d,.bool false)::e) o.dst v K else pt F.n F.C ((d,.bool false)::e) o.dst undef K)
   |some (.tuple _)=>pt F.n F.C e o.dst undef K
   |_=>no
def tC(F:Fn)(ops:Array Oper):List Oper→(Env→WK)→Env→WK
 |[],K,e=>K e
 |o::r,K,e=>RY F ops o (tC F ops r K) e
def cls(P:Program)(op:Op):Nat:=
 match op with
 | .move _| .assign _| .pick _ _ _| .nilCheck _| .binOp .. | .unOp .. | .makeFunc .. | .slice .. | .fieldAddr .. | .field .. | .indexAddr .. | .index .. | .extract .. | .build .. =>0
 | .convert _ d _=>match P.underlying d with|some (.int _)=>0|_=>2
 | .load _ _=>1
 | .call c=>match c.callee with
   | .builtin .len=>0| .builtin .min=>0| .builtin .max=>0
   |_=>2
 |_=>2
abbrev y9:=List (Nat×Addr×LV)
def kY:y9→WK→WK
 |[],K=>K
 |(_,a,cs)::r,K=>fun w=>ta w a cs∧kY r K w
def waits(o:Oper)(i:Nat):Bool:=o.after.any fun ed=>Region.binds .any ed&&aeX ed.on i
def kp(a:Addr)(cs:LV)(K:WK):WK:=fun w=>ta w a cs∧K w
def both(X Y:WK):WK:=fun w=>X w∧Y w
def stays(o:Oper)(S:y9):y9:=S.filter fun p=> !waits o p.1
def U4:List Nat→(Nat→WK)→WK
 |[],_=>fun _=>True
 |[i],f=>f i
 |i::r,f=>fun w=>f i w∧U4 r f w
def quietAt(P:Program)(ops:Array Oper)(i:Nat):Bool:=match ops[i]? with|some o=>Nat.blt (cls P o.op) 2|none=>false
def PY(F:Fn)(e:Env)(i:Nat)(o:Oper)(S:y9)(K:y9→VK):WK:=
 match o.op with
 | .load t x=>match ev e x with
   |some (.pointer (some a))=>wo F.P t a fun cs v=>K ((i,a,cs)::S) v
   |_=>no
 |op=>tH F.P F.T F.E e op o.type (K S)
def guarded(ops:Array Oper)(o:Oper)(e:Env)(run skip:Env→WK):WK:=
 match o.guard with
 |none=>run e
 |some (j,want)=>match KY ops j with
  |none=>no
  |some d=>match lk e d with
   |some (.bool b)=>br b (bif Ii true want then run ((d,.bool true)::e) else skip ((d,.bool true)::e))
                     (bif Ii false want then run ((d,.bool false)::e) else skip ((d,.bool false)::e))
   |some (.tuple _)=>skip e
   |_=>no
def qR(F:Fn)(ops:Array Oper)(K:Env→WK):Nat→Array Bool→y9→Env→WK
 |0,listed,_,e=>match Region.ready .any ops listed with|[]=>K e|_=>no
 |f+1,listed,S,e=>match Region.ready .any ops listed with
  |[]=>K e
  |r::rs=>match(r::rs).find? (quietAt F.P ops) with
   |some i=>match ops[i]? with
    |some o=>bif Region.free .any ops listed i then
              guarded ops o e (fun e=>PY F e i o S fun S v=>pt F.n F.C e o.dst v (qR F ops K f (listed.setIfInBounds i true) S))
               (fun e=>pt F.n F.C e o.dst undef (qR F ops K f (listed.setIfInBounds i true) S))
     else no
    |none=>no
   |none=>U4 (r::rs) fun i=>match ops[i]? with
    |some o=>guarded ops o e (fun e=>tH F.P F.T F.E e o.op o.type fun v=>kY (stays o S) (pt F.n F.C e o.dst v (qR F ops K f (listed.setIfInBounds i true) (stays o S))))
              (fun e=>pt F.n F.C e o.dst undef (qR F ops K f (listed.setIfInBounds i true) S))
    |none=>no
def key:Code→Nat
 | .region i _ _=>i
 | .seq a _=>key a
 | .block _ c=>key c
 | .cond _ a _=>key a
 | .loop c=>key c
 | .scope c=>key c
 |_=>0
def JL:List (Nat×List (Nat×Value))→Nat→Option (List (Nat×Value))
 |[],_=>none
 |(k,l)::r,i=>bif aeX k i then some l else JL r i
def rC(e:Env):List (Nat×Value)→Option (LV)
 |[]=>some []
 |(t,z)::r=>match lk e t with
  |some v=>bif fits z v then(match rC e r with|some vs=>some (v::vs)|none=>none) else none
  |none=>none
def vH:List (Nat×Value)→LV→Env→Env
 |(t,_)::l,v::vs,C=>(t,v)::vH l vs C
 |_,_,C=>C
def J5(K:Env→WK)(Q:Exit→Env→WK):Exit→Env→WK
 | .normal,e=>K e
 | .exit i,e=>Q (.exit i) e
 | .goto l,e=>Q (.goto l) e
 | .ret,e=>Q .ret e
 | .panic c,e=>Q (.panic c) e
 | .outgrown,e=>Q .outgrown e
def Ie(i:Nat)(Q:Exit→Env→WK):Exit→Env→WK
 | .exit j,e=>bif aeX j i then Q .normal e else Q (.exit j) e
 | .normal,e=>Q .normal e
 | .goto l,e=>Q (.goto l) e
 | .ret,e=>Q .ret e
 | .panic c,e=>Q (.panic c) e
 | .outgrown,e=>Q .outgrown e
def M'(l:List (Nat×Value))(I:LV→World→Prop)(μ:LV→World→Nat)(m:Nat)(e:Env):WK:=
 match rC e l with
 |some vs=>fun w=>I vs w∧μ vs w<m
 |none=>no
def den(F:Fn):Code→(Exit→Env→WK)→Env→WK
 | .skip,Q,e=>Q .normal e
 | .ret,Q,e=>Q .ret e
 | .exit i,Q,e=>Q (.exit i) e
 | .seq x y,Q,e=>den F x (J5 (den F y Q) Q) e
 | .cond c x y,Q,e=>match ev e c with
   |some (.bool b)=>br b (den F x Q e) (den F y Q e)
   |_=>no
 | .block i c,Q,e=>den F c (Ie i Q) e
 | .loop c,Q,e=>match JL F.Ll (key c) with
   |some l=>match rC e l with
    |some vs=>fun w=>∃(I:LV→World→Prop)(μ:LV→World→Nat),I vs w∧
               By (l.map (·.2)) fun us=>∀w,I us w→den F c (J5 (M' l I μ (μ us w)) Q) (vH l us F.C) w
    |none=>no
   |none=>no
 | .region _ ops draw,Q,e=>bif draw then
                            (bif Region.noSelect ops then tick (qR F ops (Q .normal) ops.size (aeI ops.size false) [] e) else no)
   else tC F ops ops.toList (Q .normal) e
 |_,_,_=>no
structure Sub(n:Nat)(e:Env)(a:Act):Prop where
 size:a.tmps.size=n
 defers:a.defers=[]
 get:∀t v,lk e t=some v→a.tmps[t]?=some v
def Sub.eval{n:Nat}{e:Env}{a:Act}(h:Sub n e a){x:Operand}{v:Value}(hx:ev e x=some v):a.eval x=v:=by
 cases x with
 |tmp t=>simp only[ev] at hx;simp[Act.eval,h.get t v hx]
 |const u=>simp only[ev] at hx;cases hx;rfl
 |global g=>simp only[ev] at hx;cases hx;rfl
 |func f=>simp only[ev] at hx;cases hx;rfl
def Sub.Sr{n:Nat}{e:Env}{a:Act}(h:Sub n e a):∀{xs:List Operand} {vs:LV},K1 e xs=some vs→xs.map a.eval=vs
 |[],vs,hx=>by simp only[K1] at hx;cases hx;rfl
 |x::xs,vs,hx=>by
  simp only[K1] at hx;cases h1:ev e x with
  |none=>simp[h1] at hx
  |some v=>
   cases h2:K1 e xs with
   |none=>simp[h1,h2] at hx
   |some us=>
    simp only[h1,h2,adU.injEq] at hx;subst hx;simp only[aeb,h.eval h1,h.Sr h2]
def Sub.D7{n:Nat}{e:Env}{a:Act}(h:Sub n e a){xs:Array Operand}{vs:LV}(hx:K1 e xs.toList=some vs):xs.map a.eval=⟨vs⟩:=by
 have:=h.Sr hx;rw[←Array.toList_map] at this;cases hh:xs.map a.eval
 simp only[hh] at this;subst this
 rfl
def Sub.HS{n:Nat}{e:Env}{a:Act}(h:Sub n e a):∀{xs:List (Nat×Operand)} {vs:List (Nat×Value)},D8 e xs=some vs→xs.map (fun p=>(p.1,a.eval p.2))=vs
 |[],vs,hx=>by simp only[D8] at hx;cases hx;rfl
 |(i,x)::xs,vs,hx=>by
  simp only[D8] at hx;cases h1:ev e x with
  |none=>simp[h1] at hx
  |some v=>
   cases h2:D8 e xs with
   |none=>simp[h1,h2] at hx
   |some us=>
    simp only[h1,h2,adU.injEq] at hx;subst hx;simp only[aeb,h.eval h1,h.HS h2]
def sw(e:Env)(d t:Nat)(v:Value):lk ((d,v)::e) t=if d=t then some v else lk e t:=by
 simp only[lk];by_cases h:d=t
 ·subst h;simp
 ·have h':d.beq t=false:=by
   cases hh:d.beq t with
   |true=>exact absurd (ad' hh) h
   |false=>rfl
  simp[h,h']
def Sub.put{n:Nat}{e:Env}{a:Act}(h:Sub n e a){d:Nat}(hd:d<n)(v:Value):Sub n ((d,v)::e) (a.put (some d) v):=by
 refine⟨by simp[Act.put,h.size],by simp[Act.put,h.defers],fun t u ht=>?_⟩;rw[sw] at ht;simp only[Act.put];split at ht
 ·rename_i Xo;subst Xo;cases ht
  rw[Array.getElem?_setIfInBounds_self];simp[h.size,hd]
 ·rename_i Xo;rw[Array.getElem?_setIfInBounds_ne Xo];exact h.get t u ht
def Sub.again{n:Nat}{e:Env}{a:Act}(h:Sub n e a){d:Nat}{v:Value}(hd:lk e d=some v):Sub n ((d,v)::e) a:=by
 refine⟨h.size,h.defers,fun t u ht=>?_⟩;rw[sw] at ht;split at ht
 ·rename_i Xo;subst Xo;cases ht;exact h.get _ _ hd
 ·exact h.get t u ht
def To(P:Program)(s:Sem Next)(w:World)(K:VK):Prop:=
 (∃v w',s.run P w=.ok (.value v) w'∧K v w')∨(∃w',s.run P w=.ok .skip w'∧K undef w')∨
 (∃g args w',s.run P w=.ok (.enter g args) w'∧Calls P g args w' fun e VZ=>∃v,e=.returned v∧K v VZ)
def Pure(P:Program)(s:Sem Next)(w:World)(K:VK):Prop:=∃v,(∀w',s.run P w'=.ok (.value v) w')∧K v w
def Pure.to{P:Program}{s:Sem Next}{w:World}{K:VK}(h:Pure P s w K):To P s w K:=
 let⟨v,hr,hk⟩:=h;.inl ⟨v,w,hr w,hk⟩
def PV(P:Program)(s:Sem Value)(w:World)(K:VK):Prop:=∃v,(∀w',s.run P w'=.ok v w')∧K v w
def PV.pure{P:Program}{s:Sem Value}{w:World}{K:VK}(h:PV P s w K):Pure P (do pure (.value (←s))) w K:=by
 obtain⟨v,hr,hk⟩:=h;exact⟨v,fun w'=>by simp[hr w'],hk⟩
section
variable {P:Program} {K:VK} {w:World}
def eg{t:TypeId}{d:TypeDesc}(h:P.underlying t=some d)(w:World):(underlying t).run P w=.ok d w:=by simp[underlying,h]
def xy{op:BinOp}{k:IntKind}{x y:Int}{t:TypeId}(h:AU op k x y K w):PV P (binOp op t (.int k x) (.int k y)) w K:=by
 cases op<;>simp only[AU,bl] at h<;>first
  |exact⟨_,fun w'=>by simp[binOp,Op.intArith,Op.intBits,Op.intCmp,bG];done,h⟩
  |(obtain⟨h1,h2⟩:=h
    refine⟨_,fun w'=>?_,h2⟩
    simp only[binOp,Op.intDiv,Op.shift,shl,shr,ne_eq,not_true,if_false]
    rw[if_neg (by omega)]
    rfl)
def J0{op:BinOp}{x y:BA}{t:TypeId}(h:Hb op x y K w):PV P (binOp op t (.string x) (.string y)) w K:=by
 cases op<;>simp only[Hb,bl,no] at h
 case add=>
  refine⟨_,fun w'=>?_,h.2⟩;have h1: ¬(((x.size+y.size:Nat):Int)>adx.max):=by
   have:=h.1;have e:adx.max=9223372036854775807:=by decide
   rw[e];omega
  simp only[binOp,Op.stringOp];rw[if_neg h1]
  rfl
 case eql=>exact⟨_,fun w'=>rfl,h⟩
 case neq=>exact⟨_,fun w'=>rfl,h⟩
def HT{op:BinOp}{t:TypeId}{x y:Operand}{a b:Value}(hn:(a=.nilIface→False))(hg:∀xs ys,a=.agg xs→b=.agg ys→P.eqGuardType P.depth t=false)(w:World):
 (eqGuard op t x y a b).run P w=.ok () w:=by
 cases op<;>try rfl
 all_goals
  cases a<;>cases b<;>first
   |rfl
   |exact(hn rfl).elim
   |(rename_i xs ys
     have:=hg _ _ rfl rfl
     simp[eqGuard,this])
def Hi{t d:TypeId}(h:P.underlying t=some (.pointer d))(p:OA)(w:World):(Op.equal t (.pointer p) (.pointer none)).run P w=.ok p.isNone w:=by
 show(Op.equalIn (9999+1) t _ _).run P w=_;unfold Op.equalIn;cases p<;>simp[underlying,h]
def J7{t d:TypeId}(h:P.underlying t=some (.slice d))(p:OA)(n c m e:Nat)(w:World):(Op.equal t (.slice p n c) (.slice none m e)).run P w=.ok p.isNone w:=by
 show(Op.equalIn (9999+1) t _ _).run P w=_;unfold Op.equalIn;cases p<;>simp[underlying,h]
def E5{t:TypeId}(h:P.underlying t=some .bool)(a b:Bool)(w:World):(Op.equal t (.bool a) (.bool b)).run P w=.ok (a==b) w:=by
 show(Op.equalIn (9999+1) t _ _).run P w=_;unfold Op.equalIn;simp[underlying,h]
def oA(P:Program)(E:OF):Prop:=∀t zs,C8 E t=some zs→P.eqGuardType P.depth t=false∧
 ∀xs ys,lM zs xs=true→lM zs ys=true→∀w:World,(Op.equal t (.agg ⟨xs⟩) (.agg ⟨ys⟩)).run P w=.ok (gT xs ys) w
def Lj{E:OF}(hE:oA P E){op:BinOp}{t:TypeId}{x y:Operand}{a b:Value}(h:Ig P E op t a b K w):PV P (do eqGuard op t x y a b;binOp op t a b) w K:=by
 have main:(a=.nilIface→False)→(∀xs ys,a=.agg xs→b=.agg ys→P.eqGuardType P.depth t=false)→PV P (binOp op t a b) w K→PV P (do eqGuard op t x y a b;binOp op t a b) w K:=by
  intro h1 h2 ⟨v,hv,hk⟩;refine⟨v,fun w'=>?_,hk⟩;rw[Sem.run_bind,HT h1 h2];exact hv w'
 unfold Ig at h;split at h
 ·refine main (by simp) (by simp) ?_;split at h
  ·exact xy (t:=t) h
  ·exact xy (t:=t) h
  ·rename_i k a k' b op' _ _;by_cases hk:k=k'
   ·subst hk;simp only[decide_true,cond_true] at h;exact xy h
   ·simp[hk,no] at h
 ·exact main (by simp) (by simp) (J0 h)
 ·refine main (by simp) (by simp) ?_;cases hu:P.underlying t with
  |none=>simp only[hu,no] at h
  |some d=>
   cases d<;>cases op<;>simp only[hu,no] at h<;>exact⟨_,fun w'=>by simp[binOp,E5 hu],h⟩
 ·refine main (by simp) (by simp) ?_;cases hu:P.underlying t with
  |none=>simp only[hu,no] at h
  |some d=>
   cases d<;>cases op<;>simp only[hu,no] at h<;>exact⟨_,fun w'=>by simp[binOp,Hi hu],h⟩
 ·refine main (by simp) (by simp) ?_;cases hu:P.underlying t with
  |none=>simp only[hu,no] at h
  |some d=>
   cases d<;>cases op<;>simp only[hu,no] at h<;>exact⟨_,fun w'=>by simp[binOp,J7 hu],h⟩
 ·rename_i xs ys;cases he:C8 E t with
  |none=>simp only[he,no] at h
  |some zs=>
   obtain⟨hg,heq⟩:=hE t zs he;cases op<;>simp only[he,no] at h<;>(
    obtain⟨⟨h1,h2⟩,hk⟩:=h
    refine main (by simp) (fun _ _ _ _=>hg) ⟨_,fun w'=>?_,hk⟩
    have hr:=heq _ _ h1 h2 w'
    rw[show ∀z:Array Value,(⟨z.toList⟩:Array Value)=z from fun z=>rfl,show ∀z:Array Value,(⟨z.toList⟩:Array Value)=z from fun z=>rfl] at hr
    simp only[binOp,Sem.run_bind]
    rw[hr];rfl)
 ·exact h.elim
def Ma{op:UnOp}{a:Value}(h:Mb op a K w):PV P (Op.unary op a) w K:=by
 unfold Mb at h;split at h
 ·exact⟨_,fun w'=>rfl,h⟩
 ·exact⟨_,fun w'=>rfl,h⟩
 ·exact⟨_,fun w'=>rfl,h⟩
 ·exact h.elim
def run_convert_int{s d:TypeId}{sd:TypeDesc}{k:IntKind}(hs:P.underlying s=some sd)(hd:P.underlying d=some (.int k))(j:IntKind)(n:Int)(w:World):
 (convert s d (.int j n)).run P w=.ok (.int k (k.wrap n)) w:=by
 simp[convert,underlying,hs,hd,Conv.intToInt]
def run_sliceBound{x:Int}{y:Nat}{code:BoundsCode}(h:0≤x∧x≤y)(k:IntKind)(w:World):(Instr.sliceBound (.int k x) y code).run P w=.ok x.toNat w:=by
 simp[Instr.sliceBound,asIntOf,h.1,h.2]
end
section
variable {P:Program} {K:VK} {w:World}
def BI(v:Option Value)(n:Option Int):Prop:=match v,n with
 |none,none=>True
 |some v,some n=>∃k,v=.int k n
 |_,_=>False
def Sub.Pb{n:Nat}{e:Env}{a:Act}(h:Sub n e a){x:Option Operand}{r:Option Int}(hx:Pb e x=some r):BI (x.map a.eval) r:=by
 cases x with
 |none=>simp only[Den.Pb,adU.injEq] at hx;subst hx;trivial
 |some x=>
  simp only[Den.Pb] at hx;cases h1:ev e x with
  |none=>simp[h1] at hx
  |some v=>
   cases v<;>simp[h1] at hx
   subst hx;exact⟨_,by rw[h.eval h1]⟩
def VR(len cap:Nat)(l h:Option Int):Prop:=match h with
 |none=>(match l with|none=>True|some l=>0≤l∧l≤len)
 |some h=>(0≤h∧h≤cap)∧(match l with|none=>True|some l=>0≤l∧l≤h)
def bL(l:Option Int):Nat:=match l with|none=>0|some l=>l.toNat
def bH(h:Option Int)(len:Nat):Nat:=match h with|none=>len|some h=>h.toNat
def vb(sl:Bool){len cap:Nat}{lo hi:Option Value}{l h:Option Int}(wW:BI lo l)(vD:BI hi h)
 (ok:VR len cap l h)(w:World):
 (Instr.sliceBounds sl len cap lo hi none).run P w=.ok (bL l,bH h len,cap) w:=by
 unfold VR at ok;cases h with
 |none=>
  cases hi with
  |some v=>exact vD.elim
  |none=>
   cases l with
   |none=>
    cases lo with
    |some v=>exact wW.elim
    |none=>simp[Instr.sliceBounds,bL,bH]
   |some l=>
    cases lo with
    |none=>exact wW.elim
    |some v=>
     obtain⟨k,rfl⟩:=wW;simp only at ok;simp[Instr.sliceBounds,bL,bH,run_sliceBound ok]
 |some h=>
  cases hi with
  |none=>exact vD.elim
  |some v=>
   obtain⟨k,rfl⟩:=vD;simp only at ok;obtain⟨ok1,YP⟩:=ok;cases l with
   |none=>
    cases lo with
    |some v=>exact wW.elim
    |none=>simp[Instr.sliceBounds,bL,bH,run_sliceBound ok1]
   |some l=>
    cases lo with
    |none=>exact wW.elim
    |some v=>
     obtain⟨k,rfl⟩:=wW;have ok3:0≤l∧l≤(h.toNat:Nat):=⟨YP.1,by have:=YP.2;omega⟩;simp[Instr.sliceBounds,bL,bH,run_sliceBound ok1,run_sliceBound ok3]
def J4{s:BA}{l h:Option Int}{K:BA→WK}(hh:kD s l h K w):
 VR s.size s.size l h∧K (s.extract (bL l) (bH h s.size)) w:=by
 unfold VR bL bH;unfold kD bl at hh;cases h<;>cases l<;>simp only at hh⊢
 ·exact⟨trivial,hh⟩
 ·exact hh
 ·exact⟨⟨hh.1,trivial⟩,hh.2⟩
 ·exact⟨⟨hh.1,hh.2.1⟩,hh.2.2⟩
def E3{b:OA}{len cap size:Nat}{l h:Option Int}{K:OA→Nat→Nat→WK}(hh:oC b len cap size l h K w):
 VR len cap l h∧K (tA b cap (bL l) size) (bH h len-bL l) (cap-bL l) w:=by
 unfold VR bL bH;unfold oC bl at hh;cases h<;>cases l<;>simp only at hh⊢
 ·exact⟨trivial,hh⟩
 ·exact hh
 ·exact⟨⟨hh.1,trivial⟩,hh.2⟩
 ·exact⟨⟨hh.1,hh.2.1⟩,hh.2.2⟩
def run_sizeOf{t:TypeId}{i:TypeInfo}(h:P.info? t=some i)(w:World):(sizeOf t).run P w=.ok i.size w:=by simp[sizeOf,typeInfo,h]
def E2{t:TypeId}{x:Value}{lo hi:Option Value}{l h:Option Int}(wW:BI lo l)(vD:BI hi h)(hh:Ac P t x l h K w):
 PV P (Instr.sliceAt t x lo hi none) w K:=by
 unfold Ac at hh;generalize hu:P.underlying t=u at hh;split at hh
 ·rename_i s;obtain⟨h1,h2⟩:=J4 hh;refine⟨_,fun w'=>?_,h2⟩;simp[Instr.sliceAt,Instr.slice,underlying,hu,vb false wW vD h1]
 ·rename_i e b n c;cases qA:P.info? e with
  |none=>simp only[qA,no] at hh
  |some i=>
   simp only[qA] at hh;obtain⟨h1,h2⟩:=E3 hh;refine⟨_,fun w'=>?_,h2⟩;simp only[Instr.sliceAt,Instr.slice,Sem.run_bind,eg hu,Result.andThen_ok,vb true wW vD h1,run_sizeOf qA,Sem.run_pure,tA]
 ·rename_i n e a;cases qA:P.info? e with
  |none=>simp only[qA,no] at hh
  |some i=>
   simp only[qA] at hh;obtain⟨h1,h2⟩:=E3 hh;refine⟨_,fun w'=>?_,h2⟩;simp only[Instr.sliceAt,Sem.run_bind,eg hu,Result.andThen_ok,Instr.sureAddr,Sem.run_pure,vb false wW vD h1,run_sizeOf qA,tA];split<;>rfl
 ·exact hh.elim
def pP{z v:Value}{K:VK}(h:G3 z K v w):K v w:=by
 unfold G3 at h;split at h
 ·obtain⟨n,rfl,h⟩:=h;exact h
 ·obtain⟨n,rfl,h⟩:=h;exact h
 ·obtain⟨n,rfl,h⟩:=h;exact h
 ·obtain⟨n,rfl,h⟩:=h;exact h
 ·obtain⟨b,n,c,rfl,h⟩:=h;exact h
 ·obtain⟨cs,rfl,_,h⟩:=h;exact h
 ·exact h
def LZ{z v:Value}{K:VK}(h:xT z K v w):K v w:=by
 unfold xT at h;split at h
 ·rename_i zs;generalize hz:zs.toList=l at h;split at h
  ·obtain⟨rfl,h⟩:=h;exact h
  ·obtain⟨a,b,rfl,h⟩:=h;have h1:=pP (K:=fun a=>G3 _ (fun b=>K (Value.tuple ⟨[a,b]⟩)) b) h;exact pP (K:=fun b=>K (Value.tuple ⟨[a,b]⟩)) h1
  ·obtain⟨a,b,c,rfl,h⟩:=h;have h1:=pP (K:=fun a=>G3 _ (fun b=>G3 _ (fun c=>K (Value.tuple ⟨[a,b,c]⟩)) c) b) h;have h2:=pP (K:=fun b=>G3 _ (fun c=>K (Value.tuple ⟨[a,b,c]⟩)) c) h1;exact pP (K:=fun c=>K (Value.tuple ⟨[a,b,c]⟩)) h2
  ·exact h.elim
 ·exact pP h
def yZ{t:TypeId}{x i:Value}(hh:sE P t x i K w):PV P (Instr.indexAt t x i) w K:=by
 unfold sE at hh;generalize hu:P.underlying t=u at hh;split at hh
 ·rename_i e b n c k j;cases qA:P.info? e with
  |none=>simp only[qA,no] at hh
  |some i=>
   simp only[qA] at hh;obtain⟨a,rfl,hb,hk⟩:=hh;refine⟨_,fun w'=>?_,hk⟩;simp[Instr.indexAt,asIntOf,hb.1,hb.2,Sem.run_bind,underlying,hu,sizeOf,typeInfo,qA]
 ·rename_i n e a k j;cases qA:P.info? e with
  |none=>simp only[qA,no] at hh
  |some i=>
   simp only[qA] at hh;obtain⟨hb,hk⟩:=hh;refine⟨_,fun w'=>?_,hk⟩;simp[Instr.indexAt,asIntOf,hb.1,hb.2,Sem.run_bind,underlying,hu,sizeOf,typeInfo,qA,Instr.sureAddr]
 ·exact hh.elim
def sC{t:TypeId}{d:TypeDesc}(h:P.underlying t=some d)(w:World):(isAgg t).run P w=.ok (pF d) w:=by
 simp only[isAgg,Sem.run_bind,eg h,Result.andThen_ok,pF];split<;>simp_all
def vS{t:TypeId}{d:TypeDesc}{i:TypeInfo}(h:P.underlying t=some d)(hi:P.info? t=some i)(ha:pF d=true)(cs:Array Value)(off:Nat)(w:World):
 (part t cs off).run P w=.ok (.agg ⟨(cs.toList.drop off).take i.size⟩) w:=by
 simp only[part,Sem.run_bind,sC h,Result.andThen_ok,ha,if_true,run_sizeOf hi,Sem.run_pure]
 congr 3
 apply afc;simp[List.take_drop]
def vR{t:TypeId}{d:TypeDesc}(h:P.underlying t=some d)(ha:pF d=false){cs:Array Value}{off:Nat}{v:Value}(hv:cs.toList[off]?=some v)(w:World):
 (part t cs off).run P w=.ok v w:=by
 have yr:cs[off]?=some v:=by simpa using hv
 simp[part,sC h,ha,yr]
def Kp(s:BA)(n:Nat):s[n]?=s.data.toList[n]?:=by
 by_cases h:n<s.size
 ·rw[getElem?_pos s n h];have h2:n<s.data.toList.length:=by simpa using h
  rw[adA h2];simp[ByteArray.getElem_eq_getElem_data]
 ·rw[getElem?_neg s n h];rw[aeB];simp only[Array.length_toList];have:s.data.size=s.size:=rfl;omega
def FJ{t:TypeId}{x i:Value}(hh:AV P t x i K w):PV P (Instr.index t x i) w K:=by
 unfold AV at hh;generalize hu:P.underlying t=u at hh;split at hh
 ·rename_i s k j;obtain⟨c,⟨h0,hc⟩,hk⟩:=hh;refine⟨_,fun w'=>?_,hk⟩;have F1:s[j.toNat]?=some c:=by rw[Kp];exact hc
  simp[Instr.index,asIntOf,underlying,hu,h0,F1]
 ·rename_i n e cs k j;cases hd:P.underlying e with
  |none=>simp only[hd,no] at hh
  |some d=>
   cases qA:P.info? e with
   |none=>simp only[hd,qA,no] at hh
   |some i=>
    simp only[hd,qA] at hh;cases ha:pF d with
    |true=>
     simp only[ha,cond_true] at hh;obtain⟨hb,hk⟩:=hh;refine⟨_,fun w'=>?_,hk⟩;simp[Instr.index,asIntOf,eg hu,hb.1,hb.2,run_sizeOf qA,vS hd qA ha]
    |false=>
     simp only[ha,cond_false] at hh;cases hs:aeX i.size 1 with
     |false=>simp[hs,no] at hh
     |true=>
      have dh:i.size=1:=ad' hs;simp only[hs,cond_true] at hh;cases hz:i.zero with
      |none=>simp only[hz,no] at hh
      |some z=>
       simp only[hz] at hh;obtain⟨v,⟨h0,h1,hv⟩,hk⟩:=hh;refine⟨v,fun w'=>?_,pP hk⟩;simp[Instr.index,asIntOf,eg hu,h0,h1,run_sizeOf qA,dh,vR hd ha hv]
 ·exact hh.elim
def F7{t:TypeId}{x:Value}{f:Nat}(hh:Bc P t x f K w):PV P (Instr.field t x f) w K:=by
 unfold Bc at hh;generalize hu:P.underlying t=u at hh;split at hh
 ·rename_i fs cs;cases hf:fs[f]? with
  |none=>simp only[hf,no] at hh
  |some fl=>
   simp only[hf] at hh;cases hd:P.underlying fl.type with
   |none=>simp only[hd,no] at hh
   |some d=>
    cases qA:P.info? fl.type with
    |none=>simp only[hd,qA,no] at hh
    |some i=>
     simp only[hd,qA] at hh;cases ha:pF d with
     |true=>
      simp only[ha,cond_true] at hh;refine⟨_,fun w'=>?_,hh⟩;simp[Instr.field,eg hu,hf,asAgg,vS hd qA ha]
     |false=>
      simp only[ha,cond_false] at hh;cases hz:i.zero with
      |none=>simp only[hz,no] at hh
      |some z=>
       simp only[hz] at hh;obtain⟨v,hv,hk⟩:=hh;refine⟨v,fun w'=>?_,pP hk⟩;simp[Instr.field,eg hu,hf,asAgg,vR hd ha hv]
 ·exact hh.elim
def y7{t:TypeId}{x:Value}{f:Nat}(hh:sL P t x f K w):PV P (Instr.fieldAt t x f) w K:=by
 unfold sL at hh;generalize hu:P.underlying t=u at hh;split at hh
 ·rename_i fs a;cases hf:fs[f]? with
  |none=>simp only[hf,no] at hh
  |some fl=>
   simp only[hf] at hh;cases qA:P.info? fl.type with
   |none=>simp only[qA,no] at hh
   |some i=>
    simp only[qA] at hh;cases hs:aeX i.size 0 with
    |true=>simp[hs,no] at hh
    |false=>
     have dh:i.size≠0:=fun h=>by simp[h] at hs
     simp only[hs,cond_false] at hh;refine⟨_,fun w'=>?_,hh⟩;simp[Instr.fieldAt,eg hu,hf,Instr.sureAddr,fieldPlace,run_sizeOf qA,dh]
 ·exact hh.elim
def CN{t ty:TypeId}{ts:Array TypeId}{x:Value}(ht:ts.toList=[t]∨∃r,ts.toList=t::r)(hh:Hy P t x K w):PV P (Builtin.len_ ts ty #[x]) w K:=by
 have h0:ts[0]?=some t:=by
  cases ts
  rcases ht with h|⟨r,h⟩<;>simp only at h<;>subst h<;>rfl
 unfold Hy at hh;generalize hu:P.underlying t=u at hh;split at hh
 ·exact⟨_,fun w'=>by simp[Builtin.len_,h0,eg hu,goInt],hh⟩
 ·exact⟨_,fun w'=>by simp[Builtin.len_,h0,eg hu,goInt],hh⟩
 ·exact⟨_,fun w'=>by simp[Builtin.len_,h0,eg hu,goInt],hh⟩
 ·exact hh.elim
def xt{k:IntKind}:∀{x:Int} {l:LV} {m:Int},np x l=some m→∀w:World,(l.foldlM Builtin.min2 (.int k x)).run P w=.ok (.int k m) w
 |x,[],m,h,w=>by simp only[np,adU.injEq] at h;subst h;rfl
 |x,.int j y::r,m,h,w=>by
  simp only[np] at h;have:=xt (k:=k) h w;simp only[List.foldlM_cons,Sem.run_bind,Builtin.min2,Sem.run_pure,Result.andThen_ok];exact this
 |x,.bool _::_,m,h,w=>by simp[np] at h
 |x,.float _ _::_,m,h,w=>by simp[np] at h
 |x,.complex _ _ _::_,m,h,w=>by simp[np] at h
 |x,.string _::_,m,h,w=>by simp[np] at h
 |x,.pointer _::_,m,h,w=>by simp[np] at h
 |x,.slice _ _ _::_,m,h,w=>by simp[np] at h
 |x,.map _::_,m,h,w=>by simp[np] at h
 |x,.chan _::_,m,h,w=>by simp[np] at h
 |x,.func _ _ _::_,m,h,w=>by simp[np] at h
 |x,.nilFunc::_,m,h,w=>by simp[np] at h
 |x,.iface _ _::_,m,h,w=>by simp[np] at h
 |x,.nilIface::_,m,h,w=>by simp[np] at h
 |x,.agg _::_,m,h,w=>by simp[np] at h
 |x,.tuple _::_,m,h,w=>by simp[np] at h
def CL{k:IntKind}:∀{l:LV} {x:Int} {m:Int},AN x l=some m→∀w:World,(l.foldlM Builtin.max2 (.int k x)).run P w=.ok (.int k m) w:=by
 intro l
 induction l with
 |nil=>intro x m h w;simp only[AN,adU.injEq] at h;subst h;rfl
 |cons v r ih=>
  intro x m h w;cases v<;>simp only[AN,reduceCtorEq] at h
  rename_i j y;simp only[List.foldlM_cons,Sem.run_bind,Builtin.max2,Sem.run_pure,Result.andThen_ok];exact ih h w
end
section
variable {P:Program} {K:VK} {w:World}
def jj(v:Value):v.cells.toList=dg v:=by cases v<;>rfl
def C5:∀(cs:LV)(A B C:LV)(k off:Nat),A.length=off+k→B.length=cs.length→
 (cs.zipIdx k).foldl (fun(z:Array Value)(p:Value×Nat)=>z.setIfInBounds (off+p.2) p.1) ⟨A++B++C⟩=⟨A++cs++C⟩
 |[],A,B,C,k,off,h1,h2=>by
  have:B=[]:=List.eq_nil_of_length_eq_zero h2;subst this;rfl
 |c::cs,A,B,C,k,off,h1,h2=>by
  cases B with
  |nil=>simp at h2
  |cons b B=>
   simp only[List.zipIdx_cons,List.foldl_cons];have e:(⟨A++(b::B)++C⟩:Array Value).setIfInBounds (off+k) c=⟨(A++[c])++B++C⟩:=by
    apply afc;rw[Array.toList_setIfInBounds];simp only[adI,aeN,aed];rw[←h1,List.set_append];simp
   rw[e,C5 cs (A++[c]) B C (k+1) off (by simp;omega) (by simpa using h2)];simp
def K0(A B C:LV)(v:Value)(off:Nat)(h1:A.length=off)(h2:B.length=(dg v).length):
 v.cells.zipIdx.foldl (fun(z:Array Value)(p:Value×Nat)=>z.setIfInBounds (off+p.2) p.1) ⟨A++B++C⟩=⟨A++dg v++C⟩:=by
 rw[←Array.foldl_toList,Array.toList_zipIdx,jj];exact C5 (dg v) A B C 0 off (by omega) h2
def rW(PL:List (Nat×Nat))(place:Nat→Option (Nat×Nat))(hp:∀j x,PL[j]?=some x→place j=some x)(zero:LV):
 ∀(fs:List (Nat×Nat))(at_ i:Nat)(done:LV)(ps:List (Nat×Value))(r:LV)(p:Prop),fs=PL.drop i→done.length=at_→at_≤zero.length→
  qq zero fs at_ i (ps.map fun q=>(q.1,dg q.2))=some (r,p)→p→
  Instr.fill place ⟨done++zero.drop at_⟩ ps=some ⟨done++r⟩
 |[],at_,i,done,ps,r,p,wB,hd,hz,h,Nj=>by
  simp only[qq] at h;cases hb:aeX at_ zero.length with
  |false=>simp[hb] at h
  |true=>
   simp only[hb,cond_true] at h;have he:=ad' hb;cases ps with
   |nil=>
    simp only[afa,adU.injEq,Prod.mk.injEq] at h;obtain⟨rfl,_⟩:=h;simp[Instr.fill,he]
   |cons q ps=>simp at h
 |(off,n)::fs,at_,i,done,ps,r,p,wB,hd,hz,h,Nj=>by
  simp only[qq] at h;have hPL:PL[i]?=some (off,n):=by
   have:(PL.drop i)[0]?=some (off,n):=by rw[←wB];rfl
   simpa using this
  have Xl:fs=PL.drop (i+1):=by
   have:(PL.drop i).tail=fs:=by rw[←wB];rfl
   rw[←this,List.tail_drop]
  cases hb:aeX off at_ with
  |false=>simp[hb] at h
  |true=>
   simp only[hb,cond_true] at h;have he:=ad' hb;subst he;have skip:∀r',qq zero fs (off+n) (i+1) (ps.map fun q=>(q.1,dg q.2))=some (r',p)→r=(zero.drop off).take n++r'→off+n≤zero.length→Instr.fill place ⟨done++zero.drop off⟩ ps=some ⟨done++r⟩:=by
    intro r' h' hr hle;have:=rW PL place hp zero fs (off+n) (i+1) (done++(zero.drop off).take n) ps r' p Xl (by simp;omega) hle h' Nj;rw[adI,adI] at this;rw[←hr] at this;rw[←this]
    congr 3
    rw[←aeK,ad5]
   have bound:∀(fs:List (Nat×Nat))(a i:Nat)(qs:List (Nat×LV))(x:LV×Prop),qq zero fs a i qs=some x→a≤zero.length:=by
    intro fs
    induction fs with
    |nil=>
     intro a i qs x hx;simp only[qq] at hx;cases hb:aeX a zero.length with
     |false=>simp[hb] at hx
     |true=>exact Nat.le_of_eq (ad' hb)
    |cons f fs ih=>
     intro a i qs x hx;obtain⟨o,m⟩:=f;simp only[qq] at hx;cases hb:aeX o a with
     |false=>simp[hb] at hx
     |true=>
      simp only[hb,cond_true] at hx;have key:∀qs',(∃y,qq zero fs (a+m) (i+1) qs'=some y)→a≤zero.length:=fun qs' ⟨y,hy⟩=>by have:=ih _ _ _ _ hy;omega
      cases qs with
      |nil=>
       cases hc:qq zero fs (a+m) (i+1) [] with
       |none=>simp[hc] at hx
       |some y=>exact key _ ⟨y,hc⟩
      |cons q qs=>
       obtain⟨j,cs⟩:=q;cases hj:aeX i j with
       |true=>
        simp only[hj,cond_true] at hx;cases hc:qq zero fs (a+m) (i+1) qs with
        |none=>simp[hc] at hx
        |some y=>exact key _ ⟨y,hc⟩
       |false=>
        simp only[hj,cond_false] at hx;cases hc:qq zero fs (a+m) (i+1) ((j,cs)::qs) with
        |none=>simp[hc] at hx
        |some y=>exact key _ ⟨y,hc⟩
   cases ps with
   |nil=>
    simp only[afa] at h skip;cases hc:qq zero fs (off+n) (i+1) [] with
    |none=>simp[hc] at h
    |some y=>
     obtain⟨r',p'⟩:=y;simp only[hc,adU.injEq,Prod.mk.injEq] at h;obtain⟨h1,h2⟩:=h;subst h2;exact skip r' hc h1.symm (bound _ _ _ _ _ hc)
   |cons q ps=>
    obtain⟨j,v⟩:=q;simp only[aeb] at h skip;cases hj:aeX i j with
    |true=>
     simp only[hj,cond_true] at h;have GZ:=ad' hj;subst GZ;cases hc:qq zero fs (off+n) (i+1) (ps.map fun q=>(q.1,dg q.2)) with
     |none=>simp[hc] at h
     |some y=>
      obtain⟨r',p'⟩:=y;simp only[hc,adU.injEq,Prod.mk.injEq] at h;obtain⟨h1,h2⟩:=h;subst h2;obtain⟨hlen,hp'⟩:=Nj;have hle:=bound _ _ _ _ _ hc;have:=rW PL place hp zero fs (off+n) (i+1) (done++dg v) ps r' p' Xl (by simp;omega) hle hc hp';rw[adI,adI,h1] at this;simp only[Instr.fill,hp i _ hPL];have oE:v.cells.size=n:=by rw[←hlen,←jj];simp
      have GV: ¬((decide (v.cells.size≠n)||decide (off+v.cells.size>(⟨done++zero.drop off⟩:Array Value).size))=true):=by
       simp[oE];omega
      rw[if_neg GV];have e:(⟨done++zero.drop off⟩:Array Value)=⟨done++(zero.drop off).take n++zero.drop (off+n)⟩:=by
       rw[adI,←aeK,ad5]
      rw[e,K0 done ((zero.drop off).take n) (zero.drop (off+n)) v off hd (by simp[hlen];omega)];rw[←this,adI]
    |false=>
     simp only[hj,cond_false] at h;cases hc:qq zero fs (off+n) (i+1) ((j,dg v)::ps.map fun q=>(q.1,dg q.2)) with
     |none=>simp[hc] at h
     |some y=>
      obtain⟨r',p'⟩:=y;simp only[hc,adU.injEq,Prod.mk.injEq] at h;obtain⟨h1,h2⟩:=h;subst h2;exact skip r' hc h1.symm (bound _ _ _ _ _ hc)
end
section
variable {P:Program} {K:VK} {w:World}
def Az(f:Field):Sem (Nat×Nat):=do pure (f.offset,←sizeOf f.type)
def wa:∀{fs:List Field} {pl:List (Nat×Nat)},sq P fs=some pl→∀w,(fs.mapM Az).run P w=.ok pl w
 |[],pl,h,w=>by simp only[sq,adU.injEq] at h;subst h;rfl
 |f::fs,pl,h,w=>by
  simp only[sq] at h;cases hi:P.info? f.type with
  |none=>simp[hi] at h
  |some i=>
   cases hr:sq P fs with
   |none=>simp[hi,hr] at h
   |some r=>
    simp only[hi,hr,adU.injEq] at h;subst h;have h1:(Az f).run P w=.ok (f.offset,i.size) w:=by simp[Az,run_sizeOf hi]
    rw[List.mapM_cons,Sem.run_bind,h1,Result.andThen_ok,Sem.run_bind,wa hr w];rfl
def sm{t:TypeId}{z:Value}(h:zeroOf P t=some z)(w:World):(zeroValue t).run P w=.ok z w:=by
 unfold zeroOf at h;cases hi:P.info? t with
 |none=>simp[hi] at h
 |some i=>
  simp only[hi] at h;simp[zeroValue,typeInfo,hi,h]
def Gr{t:TypeId}{ps:List (Nat×Value)}(hh:Bq P t ps K w):PV P (Instr.build t ⟨ps⟩) w K:=by
 unfold Bq at hh;generalize hz:zeroOf P t=z at hh;generalize hu:P.underlying t=u at hh;split at hh
 ·rename_i z fs;cases hp:sq P fs.toList with
  |none=>simp only[hp,no] at hh
  |some pl=>
   simp only[hp] at hh;cases hc:qq z.toList pl 0 0 (ps.map fun p=>(p.1,dg p.2)) with
   |none=>simp only[hc,no] at hh
   |some y=>
    obtain⟨cs,p⟩:=y;simp only[hc] at hh;obtain⟨Nj,hk⟩:=hh;refine⟨_,fun w'=>?_,hk⟩;have hm:(fs.mapM Az).run P w'=.ok ⟨pl⟩ w':=by
     rw[←Array.toArray_toList (xs:=fs),List.mapM_toArray,Sem.run_map,wa hp w'];rfl
    have hf:=rW pl ((⟨pl⟩:Array (Nat×Nat))[·]?) (fun j x hx=>by simpa using hx) z.toList pl 0 0 [] ps cs p rfl rfl (adK _) hc Nj;simp only[aed,aeJ] at hf;simp only[Instr.build,Sem.run_bind,sm hz,Result.andThen_ok,eg hu,Value.cells];rw[show(fs.mapM fun f=>(do let a←sizeOf f.type;pure (f.offset,a):Sem (Nat×Nat)))=fs.mapM Az from rfl,hm];simp only[Result.andThen_ok];rw[hf];rfl
 ·rename_i z n e;cases hi:P.info? e with
  |none=>simp only[hi,no] at hh
  |some i=>
   simp only[hi] at hh;cases hc:qq z.toList ((ae7 n).map fun j=>(j* i.size,i.size)) 0 0 (ps.map fun p=>(p.1,dg p.2)) with
   |none=>simp only[hc,no] at hh
   |some y=>
    obtain⟨cs,p⟩:=y;simp only[hc] at hh;obtain⟨Nj,hk⟩:=hh;refine⟨_,fun w'=>?_,hk⟩;have hf:=rW ((ae7 n).map fun j=>(j* i.size,i.size)) (fun j=>some (j* i.size,i.size)) (fun j x hx=>by
     rw[aen] at hx
     cases hr:(ae7 n)[j]? with
     |none=>simp[hr] at hx
     |some m=>
      have:m=j:=by
       rw[ae3] at hr
       ·exact(adU.inj hr).symm
       ·have:=(adC.1 hr).1;simpa using this
      subst this;simpa [hr] using hx) z.toList _ 0 0 [] ps cs p rfl rfl (adK _) hc Nj
    simp only[aed,aeJ] at hf;simp only[Instr.build,Sem.run_bind,sm hz,Result.andThen_ok,eg hu,Value.cells,run_sizeOf hi];rw[hf];rfl
 ·exact hh.elim
def su{t:TypeId}{a:Addr}{K:LV→VK}(hh:wo P t a K w):
 ∃v cs,ta w a cs∧(∀w',ta w' a cs→(loadVar t a).run P w'=.ok v w')∧K cs v w:=by
 unfold wo at hh;cases hu:P.underlying t with
 |none=>simp only[hu,no] at hh
 |some d=>
  cases hi:P.info? t with
  |none=>simp only[hu,hi,no] at hh
  |some i=>
   simp only[hu,hi] at hh;cases ha:pF d with
   |true=>
    simp only[ha,cond_true] at hh;obtain⟨cs,hl,hH,hk⟩:=hh;refine⟨_,cs,hH,fun w' hH'=>?_,hk⟩;simp only[loadVar,Sem.run_bind,sC hu,Result.andThen_ok,ha,if_true,run_sizeOf hi];rw[←hl,run_loadCells_list w' a cs hH'];rfl
   |false=>
    simp only[ha,cond_false] at hh;cases hz:i.zero with
    |none=>simp only[hz,no] at hh
    |some z=>
     simp only[hz] at hh;obtain⟨v,hc,hk⟩:=hh;have a0:a.add 0=a:=by simp[Addr.add]
     refine⟨v,[v],fun j u hj=>?_,fun w' hH'=>?_,pP (K:=fun v=>K [v] v) hk⟩
     ·cases j with
      |zero=>simp only[List.getElem?_cons_zero,adU.injEq] at hj;subst hj;rw[a0];exact hc
      |succ j=>simp at hj
     ·have:=hH' 0 v rfl;rw[a0] at this;simp only[loadVar,Sem.run_bind,sC hu,Result.andThen_ok,ha,ad0,if_false,run_load,this]
def N0{a b:Addr}{v:Value}(h:∃o,w.cell? b=some o):∃o,(w.setCell a v).cell? b=some o:=by
 obtain⟨o,h⟩:=h;by_cases O9:a=b
 ·subst O9;exact⟨v,World.cell?_setCell_same w a v h⟩
 ·exact⟨o,by rw[World.cell?_setCell_other w a b v O9];exact h⟩
def sU.tail{a:Addr}{i:Nat}{v:Value}{cs:LV}(h:sU w a i (v::cs)):sU (w.setCell (a.add i) v) a (i+1) cs:=by
 refine⟨fun u hu=>h.1 u (aeE _ hu),fun j hj=>?_⟩;have:=h.2 (j+1) (by simp;omega);rw[show i+1+j=i+(j+1) from by omega];exact⟨N0 this.1,by rw[World.frozen?_setCell];exact this.2⟩
def rD:∀(cs:LV)(a:Addr)(i:Nat)(w:World),sU w a i cs→(storeCells a cs i).run P w=.ok () (u5 w a i cs)
 |[],a,i,w,h=>rfl
 |v::cs,a,i,w,h=>by
  have h0:=h.2 0 (by simp);obtain⟨⟨o,ho⟩,hf⟩:=h0;simp only[aev] at ho hf;simp only[storeCells,Sem.run_bind,run_store P w (a.add i) v .plain (h.1 v (by simp)),ho,hf,u5];exact rD cs a (i+1) _ h.tail
def BP{t:TypeId}{a:Addr}{v:Value}(hh:Ab P t a v K w):∃w',(storeVar t a v).run P w=.ok () w'∧K undef w':=by
 unfold Ab at hh;cases hi:P.info? t with
 |none=>simp only[hi,no] at hh
 |some i=>
  simp only[hi] at hh;have one:v.cells.toList=[v]→(bif aeX i.size 1 then st a v (K undef) else no) w→∃w',(storeVar t a v).run P w=.ok () w'∧K undef w':=by
   intro hv hh;cases hs:aeX i.size 1 with
   |false=>simp[hs,no] at hh
   |true=>
    have dh:i.size=1:=ad' hs;simp only[hs,cond_true] at hh;obtain⟨h1,⟨o,ho⟩,hf,hk⟩:=hh;have a0:a.add 0=a:=by simp[Addr.add]
    refine⟨_,?_,hk⟩;have oE:v.cells.size=1:=by rw[←Array.length_toList,hv];rfl
    simp only[storeVar,Sem.run_bind,run_sizeOf hi,Result.andThen_ok,dh,oE,ne_eq,not_true,if_false,hv];have:=rD (P:=P) [v] a 0 w ⟨fun u hu=>by simp at hu;subst hu;exact h1,fun j hj=>by simp at hj;subst hj;simp only[aev,a0];exact⟨⟨o,ho⟩,hf⟩⟩;simp only[u5,a0] at this;exact this
  split at hh
  ·rename_i cs;obtain⟨hl,hc,hk⟩:=hh;refine⟨_,?_,hk⟩;have GX:cs.size=i.size:=by simpa using hl
   simp only[storeVar,Sem.run_bind,run_sizeOf hi,Result.andThen_ok,Value.cells,GX,ne_eq,not_true,if_false];exact rD _ _ _ _ hc
  ·rename_i hv;refine one ?_ hh;cases v<;>first|rfl|exact absurd rfl (hv _)
end
section
variable {P:Program} {K:VK} {w:World}
def SV(P:Program)(s:Sem Value)(w:World)(K:VK):Prop:=∃v w',s.run P w=.ok v w'∧K v w'
def SV.to{s:Sem Value}(h:SV P s w K):To P (do pure (.value (←s))) w K:=by
 obtain⟨v,w',hr,hk⟩:=h;exact .inl ⟨v,w',by simp[hr],hk⟩
def PV.sv{s:Sem Value}(h:PV P s w K):SV P s w K:=let⟨v,hr,hk⟩:=h;⟨v,w,hr w,hk⟩
def WB{cs:LV}{t:TypeId}(h:mk cs (fun r=>K (vZ r)) w)(v:Value)(hv:dg v=cs):SV P (Instr.box t v) w K:=by
 refine⟨_,_,?_,h t⟩;have:v.cells=⟨cs⟩:=by rw[←hv,←jj]
 simp[Instr.box,newVar,newRow,this,vZ]
def N'{t:TypeId}{z:Value}(hz:zeroOf P t=some z)(h:mk (dg z) (fun r=>K (vZ r)) w):SV P (Instr.alloc t true (.tuple #[])) w K:=by
 refine⟨_,_,?_,h t⟩;have:z.cells=⟨dg z⟩:=by rw[←jj]
 simp[Instr.alloc,sm hz,newVar,newRow,this,vZ]
def Lo{t:TypeId}{z:Value}(hz:zeroOf P t=some z)(h:WC t (dg z) (fun r=>K (vZ r)) w):SV P (Instr.alloc t true (.tuple #[])) w K:=by
 refine⟨_,_,?_,h⟩;have:z.cells=⟨dg z⟩:=by rw[←jj]
 simp[Instr.alloc,sm hz,newVar,newRow,this,vZ]
def qh{n size len cap:Nat}{b:OA}{cs:LV}(h:Src w n size b cs)(hb:b=none→n=0):
 (Builtin.firstCells size n (.slice b len cap)).run P w=.ok ⟨cs⟩ w:=by
 cases b with
 |none=>
  have h0:=hb rfl;subst h0;have hl:=h.1;simp at hl;subst hl;exact run_firstCells_none (P:=P) w size 0 len cap
 |some a=>exact run_firstCells_some (P:=P) w size n a len cap cs h.1 (h.2 a rfl)
def va{s:BA}(size:Nat):(Builtin.firstCells size s.size (.string s)).run P w=.ok ⟨strCells s⟩ w:=by
 have e:s.extract 0 s.size=s:=by simp
 simp only[Builtin.firstCells,e,Sem.run_pure,strCells]
 congr 1
 apply afc;simp
def Ed{Ww old:Nat}{el:TypeId}(t:Nat):Ww≤(Question.appendCap Ww old el).cut t:=by
 simp only[Question.cut];omega
def Gz{size bytes:Nat}{z:Value}{b:OA}{len cap n:Nat}{new:LV}{K:OA→Nat→Nat→WK}{t u ty e:TypeId}{i:TypeInfo}{du:TypeDesc}{x:Value}
 (h:Rj size bytes (dg z) b len cap n new K w)(ht:P.underlying t=some (.slice e))(hu:P.underlying u=some du)(hdu:∀k,du≠.int k)(hi:P.info? e=some i)(hs:i.size=size)(Jw:i.bytes=bytes)(hz:i.zero=some z)
 (hlen:(Builtin.lenOf x).run P w=.ok n w)(tP:∀w',(∀a,w'.cell? a=w.cell? a)→(Builtin.firstCells size n x).run P w'=.ok ⟨new⟩ w'):
 ∃b' n' c' w',(Builtin.append_ #[t,u] ty #[.slice b len cap,x]).run P w=.ok (.slice b' n' c') w'∧K b' n' c' w':=by
 subst hs Jw;have ZZ:z.cells=⟨dg z⟩:=by rw[←jj]
 have hnz:(match du with| .int _=>true|_=>false)=false:=by cases du<;>first|rfl|exact absurd rfl (hdu _)
 by_cases hle:len+n≤cap
 ·obtain⟨h1,h2⟩:=h.1 hle;cases b with
  |none=>
   refine⟨_,_,_,_,?_,h2 rfl⟩;simp only[Builtin.append_,List.getElem?_toArray,List.getElem?_cons_zero,adR,Sem.run_bind,eg ht,eg hu,run_sizeOf hi,Result.andThen_ok,Sem.run_pure,ad0,if_false,hlen,Bool.not_false,if_true,hle,tP w (fun _=>rfl)]
  |some a=>
   obtain⟨hc,hk⟩:=h1 a rfl;refine⟨_,_,_,_,?_,hk⟩;simp only[Builtin.append_,List.getElem?_toArray,List.getElem?_cons_zero,adR,Sem.run_bind,eg ht,eg hu,run_sizeOf hi,Result.andThen_ok,Sem.run_pure,ad0,if_false,hlen,Bool.not_false,if_true,hle,tP w (fun _=>rfl),rD _ _ _ _ hc]
 ·have a8:cap<len+n:=by omega
  obtain⟨O8,tQ,old,vh,hn,hk⟩:=h.2 a8;have y6:=growslice_fits (old:=cap) (bytes:=i.bytes) a8 O8;have hm: ¬(((len+n:Nat):Int)>adx.max∧(False∨i.bytes=0)):=by
   have e:adx.max=9223372036854775807:=by decide
   rw[e];omega
  refine⟨_,_,_,_,?_,hk _ e (Ed (old:=cap) (el:=e) (w.tape w.drawn (.appendCap (len+n) cap e)))⟩;have QB:∀(l c:Nat),(Builtin.firstCells i.size len (.slice b l c)).run P w.drew=.ok ⟨old⟩ w.drew:=fun l c=>
   qh (w:=w.drew) ⟨vh.1,fun a ha=>vh.2 a ha⟩ hn
  have zv:=tP w.drew (fun _=>rfl);have Us: ¬(Builtin.nextslicecap (len+n) cap* i.bytes>2^48):=by omega
  simp only[Builtin.append_,List.getElem?_toArray,List.getElem?_cons_zero,adR,Sem.run_bind,eg ht,eg hu,run_sizeOf hi,Result.andThen_ok,Sem.run_pure,ad0,if_false,hlen,Bool.not_false,if_true,hle,
   typeInfo,run_program,hi,Us,hm,zeroValue,hz,run_choose,Question.forced,run_askRoom,World.drew_eq,QB,zv,newRow,run_newObj,World.alloc_eq,ZZ,Sem.run_ite,run_mark]
  have e2:(⟨old⟩++⟨new⟩:Array Value)=(old++new).toArray:=by simp
  rw[e2];rfl
def Lk{t u ty:TypeId}{s x:Value}(hh:Ik P t u s x K w):SV P (Builtin.append_ #[t,u] ty #[s,x]) w K:=by
 unfold Ik at hh;generalize ht:P.underlying t=dt at hh;split at hh
 case h_2=>exact hh.elim
 rename_i e b n c;cases hi:P.info? e with
 |none=>simp only[hi,no] at hh
 |some i=>
  simp only[hi] at hh;cases hz:i.zero with
  |none=>simp only[hz,no] at hh
  |some z=>
   simp only[hz] at hh;generalize hu:P.underlying u=du at hh;split at hh
   ·rename_i e' b' m c';obtain⟨new,vh,hn,aaJ⟩:=hh;obtain⟨b1,n1,c1,w1,hr,hk⟩:=Gz (P:=P) (ty:=ty) (x:=.slice b' m c') aaJ ht hu (fun k=>by simp) hi rfl rfl hz rfl (fun w' LD=>qh (w:=w') ⟨vh.1,fun a ha j v hj=>by rw[LD];exact vh.2 a ha j v hj⟩ hn);exact⟨_,_,hr,hk⟩
   ·rename_i y;cases hs:(aeX i.size 1&&aeX i.bytes 1) with
    |false=>simp only[hs,cond_false,no] at hh
    |true=>
     simp only[hs,cond_true] at hh;simp only[aet] at hs;have h1:=ad' hs.1;have h2:=ad' hs.2;split at hh
     ·obtain⟨b1,n1,c1,w1,hr,hk⟩:=Gz (P:=P) (ty:=ty) (x:=.string y) (z:=.int .u8 0) hh ht hu (fun k=>by simp) hi h1 h2 hz rfl (fun w' _=>va (w:=w') i.size);exact⟨_,_,hr,hk⟩
     ·exact hh.elim
   ·exact hh.elim
def U1{p:OA}{n c:Nat}{K:BA→WK}(h:Rg p n K w):∃s,(Conv.bytesToString (.slice p n c)).run P w=.ok (.string s) w∧K s w:=by
 cases p with
 |none=>exact⟨_,rfl,h.1 rfl⟩
 |some a=>
  obtain⟨cs,hl,hH,hb,hk⟩:=h.2 a rfl;refine⟨_,?_,hk⟩;subst hl;have key:∀(l:LV),(∀v∈l,∃m,v=.int .u8 m)→∃ns:List Int,l=ns.map (.int .u8)∧bytesOf l=ns.map fun n=>UInt8.ofNat n.toNat:=by
   intro l
   induction l with
   |nil=>intro _;exact⟨[],rfl,rfl⟩
   |cons v l ih=>
    intro hv;obtain⟨m,rfl⟩:=hv v (by simp);obtain⟨ns,h1,h2⟩:=ih fun v yr=>hv v (by simp[yr]);exact⟨m::ns,by rw[h1];rfl,by simp only[aeb,←h2];rfl⟩
  have fold:∀(ns:List Int)(s:BA),ns.foldl (fun r n=>r.push (UInt8.ofNat n.toNat)) s=⟨s.data++(ns.map fun n=>UInt8.ofNat n.toNat).toArray⟩:=by
   intro ns
   induction ns with
   |nil=>intro s;simp
   |cons n ns ih=>
    intro s;rw[List.foldl_cons,ih]
    congr 1
    apply afc;simp[ByteArray.push]
  obtain⟨ns,h1,h2⟩:=key cs hb;have mn:=run_loadCells_list (P:=P) w a cs hH;have:=run_bytesToString (P:=P) w a cs.length c ns (by rw[mn,h1]);rw[this,fold,h2];simp[ByteArray.empty,ByteArray.emptyWithCapacity]
  rfl
def Tj{e:TypeId}{s:BA}{K:Nat→Nat→WK}(h:YO s K w):∃r c w',(Conv.stringToBytes e s).run P w=.ok (.slice (some ⟨r,0,none⟩) s.size c) w'∧K r c w':=by
 refine⟨_,_,_,?_,h _ e (Ed (old:=0) (el:=e) (w.tape w.drawn (.appendCap s.size 0 e)))⟩;have DY:(choose (.appendCap s.size 0 e)).run P w=.ok ((Question.appendCap s.size 0 e).cut (w.tape w.drawn (.appendCap s.size 0 e))) w.drew:=rfl;simp only[Conv.stringToBytes,Sem.run_bind,DY,Result.andThen_ok,newRow,run_newObj,World.alloc_eq,Sem.run_pure,markStringish,run_shape];have e1:(s.data.map fun b=>Value.int .u8 b.toNat)=(strCells s).toArray:=by
  apply afc;simp[strCells]
 rw[e1];generalize hc:(Question.appendCap s.size 0 e).cut (w.tape w.drawn (Question.appendCap s.size 0 e))=c;have hle:s.size≤c:=by rw[←hc];exact Ed (old:=0) (el:=e) _
 have oE:((strCells s).toArray++aeI (c-s.size) (Value.int .u8 0)).size=c:=by
  have:s.data.size=s.size:=rfl;simp[strCells];omega
 have hsh:(w.drew.alloc (.cells ((strCells s).toArray++aeI (c-s.size) (.int .u8 0)) e)).shape? w.drew.heap.size=some (e,c):=by
  simp only[World.shape?,World.alloc,Array.getElem?_push_size,oE]
 rw[hsh]
 rfl
def zN(z:Array Value)(n:Nat):madeCells z (n* z.size)=Builtin.zeroCells z n:=rfl
def Qe{t e:TypeId}{i:TypeInfo}{z:Value}{kl kc:IntKind}{l c:Int}(ht:P.underlying t=some (.slice e))(hi:P.info? e=some i)(hz:i.zero=some z)(hs:(dg z).length=i.size)
 (h:Fx i.bytes (dg z) l c (fun b n c=>K (.slice b n c)) w):SV P (Instr.makeSlice t (.int kl l) (.int kc c)) w K:=by
 obtain⟨⟨h0,h1,h2,h3⟩,hk⟩:=h;refine⟨_,_,?_,hk e⟩;rw[run_make w t e i z ht hi hz kl kc l c h0 h1 (by rw[Int.mul_comm];exact h3) h2];have oE:z.cells.size=i.size:=by rw[←hs,←jj];simp
 rw[←oE,zN];have:z.cells=⟨dg z⟩:=by rw[←jj]
 rw[this]
def Q2{t ty e:TypeId}{i:TypeInfo}{uW:Array TypeId}{b b':OA}{n c m c':Nat}(h0:uW[0]?=some t)(ht:P.underlying t=some (.slice e))(hi:P.info? e=some i)
 (h:NV i.size b n b' m (fun k=>K (.i k)) w):SV P (Builtin.copy_ uW ty #[.slice b n c,.slice b' m c']) w K:=by
 obtain⟨new,vh,hn,h1,h2⟩:=h;have hf:=qh (P:=P) (len:=m) (cap:=c') vh hn;cases b with
 |none=>
  refine⟨_,w,?_,h1 rfl⟩;simp only[Builtin.copy_,h0,List.getElem?_toArray,List.getElem?_cons_zero,adR,Sem.run_bind,eg ht,run_sizeOf hi,Result.andThen_ok,Sem.run_pure,Builtin.lenOf];rw[show Nat.min m n=min m n from rfl,hf]
  rfl
 |some a=>
  obtain⟨hc,hk⟩:=h2 a rfl;refine⟨_,_,?_,hk⟩;simp only[Builtin.copy_,h0,List.getElem?_toArray,List.getElem?_cons_zero,adR,Sem.run_bind,eg ht,run_sizeOf hi,Result.andThen_ok,Sem.run_pure,Builtin.lenOf];rw[show Nat.min m n=min m n from rfl,hf];simp only[Result.andThen_ok,rD _ _ _ _ hc,Sem.run_pure]
  rfl
def Q4{t ty e:TypeId}{i:TypeInfo}{z:Value}{uW:Array TypeId}{b:OA}{n c:Nat}(h0:uW[0]?=some t)(ht:P.underlying t=some (.slice e))(hi:P.info? e=some i)(hz:i.zero=some z)
 (h:Q5 (Builtin.zeroCells ⟨dg z⟩ n).toList b n (K (.tuple ⟨[]⟩)) w):SV P (Builtin.clear_ uW ty #[.slice b n c]) w K:=by
 obtain⟨h1,h2⟩:=h;have ZZ:z.cells=⟨dg z⟩:=by rw[←jj]
 cases b with
 |none=>
  refine⟨_,w,?_,h1 (.inl rfl)⟩;simp[Builtin.clear_,h0,eg ht]
 |some a=>
  cases n with
  |zero=>
   refine⟨_,w,?_,h1 (.inr rfl)⟩;simp[Builtin.clear_,h0,eg ht]
  |succ n=>
   obtain⟨hc,hk⟩:=h2 a rfl (by omega);refine⟨_,_,?_,hk⟩;simp only[Builtin.clear_,h0,List.getElem?_toArray,List.getElem?_cons_zero,Sem.run_bind,eg ht,Result.andThen_ok,zeroValue,typeInfo,run_program,hi,hz,Sem.run_pure,ZZ,rD _ _ _ _ hc]
end
section
variable {P:Program} {K:VK} {w:World} {T:Ek} {n:Nat} {e:Env} {a:Act}
def Entry(P:Program)(g:Nat)(p:WP):Prop:=
 (∃fn,P.funcs[g]?=some fn∧(fn.name== "runtime.NumGoroutine")=false∧fn.body.isNone=false)∧
 ∀args K w,p args K w→Calls P g ⟨args⟩ w fun e w'=>∃v,e=.returned v∧K v w'
def Rt(P:Program)(g:Nat)(p:WP):Prop:=∀args K w,p args K w→∃v w',(callFunc g ⟨args⟩).run P w=.ok (.value v) w'∧K v w'
def mr(P:Program):Ek→Prop
 |[]=>True
 |(g,p)::r=>(Entry P g p∨Rt P g p)∧mr P r
def Gn:∀{T:Ek},mr P T→∀{g:Nat} {args:LV} {K:VK} {w:World},Gp T g args K w→
 ((∃fn,P.funcs[g]?=some fn∧(fn.name== "runtime.NumGoroutine")=false∧fn.body.isNone=false)∧Calls P g ⟨args⟩ w fun e w'=>∃v,e=.returned v∧K v w')∨
 ∃v w',(callFunc g ⟨args⟩).run P w=.ok (.value v) w'∧K v w'
 |[],_,_,_,_,_,h=>h.elim
 |(f,p)::r,hT,g,args,K,w,h=>by
  simp only[Gp] at h;cases hb:aeX f g with
  |true=>
   have:=ad' hb;subst this;simp only[hb,cond_true] at h;rcases hT.1 with he|he
   ·exact .inl ⟨he.1,he.2 _ _ _ h⟩
   ·exact .inr (he _ _ _ h)
  |false=>
   simp only[hb,cond_false] at h;exact Gn hT.2 h
def vT{g:Nat}{args:Array Value}{fn:Func}(h:P.funcs[g]?=some fn)(h1:(fn.name== "runtime.NumGoroutine")=false)(h2:fn.body.isNone=false)(w:World):
 (callFunc g args).run P w=.ok (.enter g args) w:=by
 simp only[callFunc,Sem.run_bind,run_program,Result.andThen_ok,h,h1,h2,ad0,if_false,Sem.run_pure]
def H'(hT:mr P T)(hs:Sub n e a){c:Call}{ty:TypeId}(h:wQ P T e c ty K w):To P (do let d←resolve a.eval c ty;invoke d.target d.args) w K:=by
 obtain⟨callee,args,uW⟩:=c;unfold wQ at h;cases yz:K1 e args.toList with
 |none=>simp only[yz,no] at h
 |some vs=>
  simp only[yz] at h;have FU:=hs.D7 yz;cases callee with
  |invoke r m=>simp only[no] at h
  |value f=>
   cases hf:ev e f with
   |none=>simp only[hf,no] at h
   |some fv=>
    have hfe:=hs.eval hf;simp only[hf] at h;cases hz:zeroOf P ty with
    |none=>simp only[hz,no] at h
    |some z=>
     simp only[hz] at h;cases fv<;>first|exact False.elim h|skip
     rename_i fnv first cap
     cases fnv<;>first|exact False.elim h|skip
     rename_i g
     replace h:Gp T g (first.toList++vs++cap.toList) (xT z K) w:=h
     have Nw:(first++(⟨vs⟩:Array Value)++cap:Array Value)=⟨first.toList++vs++cap.toList⟩:=by
      apply afc;simp
     rcases Gn hT h with⟨⟨fn,h1,h2,h3⟩,hc⟩|⟨v,w',hr,hk⟩
     ·refine .inr (.inr ⟨g,⟨first.toList++vs++cap.toList⟩,w,?_,hc.mono fun e w' ⟨v,he,hk⟩=>⟨v,he,LZ hk⟩⟩);simp only[resolve,hfe,FU,Deferred.ofValue,invoke,Sem.run_bind,Sem.run_pure,Result.andThen_ok];rw[Nw,vT h1 h2 h3]
     ·refine .inl ⟨v,w',?_,LZ hk⟩;simp only[resolve,hfe,FU,Deferred.ofValue,invoke,Sem.run_bind,Sem.run_pure,Result.andThen_ok];rw[Nw,hr]
  |builtin b=>
   simp only at h;have base:∀s:Sem Value,(∀cs,builtin b uW ty cs ⟨vs⟩=(do pure (.value (←s))))→SV P s w K→To P (do let d←resolve a.eval ⟨.builtin b,args,uW⟩ ty;invoke d.target d.args) w K:=by
    intro s hbs hsv;have:=SV.to hsv;have e1:(do let d←resolve a.eval ⟨.builtin b,args,uW⟩ ty;invoke d.target d.args:Sem Next)=(do pure (.value (←s))):=by
     rw[←hbs (args.map fun| .const _=>true|_=>false)];simp only[resolve,FU,invoke]
     rfl
    rw[e1];exact this
   unfold vq at h;generalize HA:uW.toList=ts at h;split at h
   ·rename_i t r x;refine base (Builtin.len_ uW ty #[x]) (fun cs=>rfl) (PV.sv (CN (t:=t) (.inr ⟨r,HA⟩) h))
   ·rename_i k x r;cases hm:np x r with
    |none=>simp only[hm,no] at h
    |some m=>
     simp only[hm] at h;exact base (Builtin.min_ uW ty ⟨.int k x::r⟩) (fun cs=>rfl) ⟨_,w,xt hm w,h⟩
   ·rename_i k x r;cases hm:AN x r with
    |none=>simp only[hm,no] at h
    |some m=>
     simp only[hm] at h;exact base (Builtin.max_ uW ty ⟨.int k x::r⟩) (fun cs=>rfl) ⟨_,w,CL hm w,h⟩
   ·rename_i t u s x;have aaG:uW=#[t,u]:=by cases uW;simp only at HA;subst HA;rfl
    subst aaG;exact base (Builtin.append_ #[t,u] ty #[s,x]) (fun cs=>rfl) (Lk h)
   ·rename_i t r b1 m1 c1 b2 m2 c2;have h0:uW[0]?=some t:=by cases uW;simp only at HA;subst HA;rfl
    generalize ht:P.underlying t=d at h;split at h
    ·rename_i el;cases hi:P.info? el with
     |none=>simp only[hi,no] at h
     |some i=>
      simp only[hi] at h;exact base (Builtin.copy_ uW ty #[.slice b1 m1 c1,.slice b2 m2 c2]) (fun cs=>rfl) (Q2 h0 ht hi h)
    ·exact h.elim
   ·rename_i t r b1 m1 c1;have h0:uW[0]?=some t:=by cases uW;simp only at HA;subst HA;rfl
    generalize ht:P.underlying t=d at h;split at h
    ·rename_i el;cases hi:P.info? el with
     |none=>simp only[hi,no] at h
     |some i=>
      simp only[hi] at h;cases hz:i.zero with
      |none=>simp only[hz,no] at h
      |some z=>
       simp only[hz] at h;exact base (Builtin.clear_ uW ty #[.slice b1 m1 c1]) (fun cs=>rfl) (Q4 h0 ht hi hz h)
    ·exact h.elim
   ·rename_i t r b1 m1 c1;have h0:uW[0]?=some t:=by cases uW;simp only at HA;subst HA;rfl
    generalize ht:P.underlying t=d at h;split at h
    ·exact base (Builtin.cap_ uW ty #[.slice b1 m1 c1]) (fun cs=>rfl) ⟨_,w,by simp[Builtin.cap_,h0,eg ht,goInt],h⟩
    ·exact h.elim
   ·exact h.elim
def H5{s d:TypeId}{x:Value}(h:zC P s d x K w):SV P (convert s d x) w K:=by
 unfold zC at h;cases hs:P.underlying s with
 |none=>simp only[hs,no] at h
 |some sd=>
  simp only[hs] at h;generalize hd:P.underlying d=dd at h;split at h
  ·exact⟨_,_,run_convert_int hs hd _ _ w,h⟩
  ·exact⟨_,_,by cases sd<;>simp[convert,eg hs,eg hd],h⟩
  ·rename_i el b;generalize he:P.underlying el=ed at h;split at h
   ·obtain⟨r,c,w',hr,hk⟩:=Tj (P:=P) (e:=el) h;refine⟨_,w',?_,hk⟩;cases sd<;>simp[convert,eg hs,eg hd,eg he,hr]
   ·exact h.elim
  ·rename_i p m c;cases sd<;>simp only[no] at h
   rename_i el;generalize he:P.underlying el=ed at h;split at h
   ·obtain⟨r,hr,hk⟩:=U1 (P:=P) (c:=c) h;refine⟨_,w,?_,hk⟩;simp[convert,eg hs,eg hd,eg he,hr]
   ·exact h.elim
  ·exact h.elim
def Cc{t:TypeId}{m:Nat}{ps:List (Nat×Value)}(hh:vr P t m ps K w):SV P (Instr.buildSlice t m ⟨ps⟩) w K:=by
 unfold vr at hh;cases hu:P.underlying t with
 |none=>simp only[hu,no] at hh
 |some d=>
  cases d<;>simp only[hu,no] at hh
  rename_i el;cases hi:P.info? el with
  |none=>simp only[hi,no] at hh
  |some i=>
   simp only[hi] at hh;cases hz:i.zero with
   |none=>simp only[hz,no] at hh
   |some z=>
    simp only[hz] at hh;cases hb:(Nat.ble (m* i.size) 16777216&&Nat.blt 0 i.size&&aeX (dg z).length i.size) with
    |false=>simp only[hb,cond_false,no] at hh
    |true=>
     simp only[hb,cond_true] at hh;simp only[aet] at hb;obtain⟨⟨O8,tQ⟩,Uk⟩:=hb;have h1:m* i.size≤16777216:=adH O8;have h3:=ad' Uk;cases hc:qq (Builtin.zeroCells ⟨dg z⟩ m).toList ((ae7 m).map fun j=>(j* i.size,i.size)) 0 0 (ps.map fun p=>(p.1,dg p.2)) with
     |none=>simp only[hc,no] at hh
     |some y=>
      obtain⟨cs,p⟩:=y;simp only[hc] at hh;obtain⟨Nj,hk⟩:=hh;have hf:=rW ((ae7 m).map fun j=>(j* i.size,i.size)) (fun j=>some (j* i.size,i.size)) (fun j x hx=>by
       rw[aen] at hx
       cases hr:(ae7 m)[j]? with
       |none=>simp[hr] at hx
       |some q=>
        have:q=j:=by
         rw[ae3] at hr
         ·exact(adU.inj hr).symm
         ·have:=(adC.1 hr).1;simpa using this
        subst this;simpa [hr] using hx) _ _ 0 0 [] ps cs p rfl rfl (adK _) hc Nj
      simp only[aed,aeJ] at hf;have oE:z.cells=⟨dg z⟩:=by rw[←jj]
      have hzz:(⟨dg z⟩:Array Value).size=i.size:=h3;have aac:((Array.range (m* i.size)).map fun x=>(⟨dg z⟩:Array Value)[x%(⟨dg z⟩:Array Value).size]!)=Builtin.zeroCells ⟨dg z⟩ m:=by
       rw[←hzz];rfl
      refine⟨_,_,?_,hk el⟩;simp only[Instr.buildSlice,Sem.run_bind,eg hu,Result.andThen_ok,run_sizeOf hi];have hn: ¬(m* i.size>2^24):=by omega
      simp only[hn,if_false];by_cases h0:m* i.size=0
      ·have hm:m=0:=by
        rcases Nat.mul_eq_zero.1 h0 with h|h
        ·exact h
        ·rw[h] at tQ;simp at tQ
       subst hm;have hzc:Builtin.zeroCells ⟨dg z⟩ 0=#[]:=by simp[Builtin.zeroCells]
       rw[hzc] at hf;have TW:∀f:Nat→Value,(Array.range (0* i.size)).map f=#[]:=fun f=>by rw[Nat.zero_mul];simp
       simp only[h0,if_true];simp only[Nat.zero_mul] at TW;rw[show ∀z:Array Value,(⟨z.toList⟩:Array Value)=z from fun z=>rfl] at hf;simp only[Sem.run_bind,Sem.run_pure,Result.andThen_ok,TW];rw[hf]
       rfl
      ·simp only[h0,if_false,Sem.run_bind,zeroValue,typeInfo,run_program,hi,hz,Result.andThen_ok,Sem.run_pure,oE,aac];rw[show ∀z:Array Value,(⟨z.toList⟩:Array Value)=z from fun z=>rfl] at hf;rw[hf]
       rfl
end
section
variable {P:Program} {K:VK} {w:World} {T:Ek} {E:OF} {n:Nat} {e:Env} {a:Act}
def Pure.of_eq{s:Sem Next}(v:Value)(h:s=pure (.value v))(hk:K v w):Pure P s w K:=⟨v,fun w'=>by rw[h];rfl,hk⟩
def Ef(hs:Sub n e a){c:Call}{ty:TypeId}(hc:cls P (.call c)=0)(h:wQ P T e c ty K w):Pure P (do let d←resolve a.eval c ty;invoke d.target d.args) w K:=by
 obtain⟨callee,args,uW⟩:=c;unfold wQ at h;cases yz:K1 e args.toList with
 |none=>simp only[yz,no] at h
 |some vs=>
  simp only[yz] at h;have FU:=hs.D7 yz;cases callee with
  |invoke r m=>simp only[no] at h
  |value f=>simp[cls] at hc
  |builtin b=>
   simp only at h;have base:∀s:Sem Value,(∀cs,builtin b uW ty cs ⟨vs⟩=(do pure (.value (←s))))→PV P s w K→Pure P (do let d←resolve a.eval ⟨.builtin b,args,uW⟩ ty;invoke d.target d.args) w K:=by
    intro s hbs hsv;have:=PV.pure hsv;have e1:(do let d←resolve a.eval ⟨.builtin b,args,uW⟩ ty;invoke d.target d.args:Sem Next)=(do pure (.value (←s))):=by
     rw[←hbs (args.map fun| .const _=>true|_=>false)];simp only[resolve,FU,invoke]
     rfl
    rw[e1];exact this
   unfold vq at h;generalize HA:uW.toList=ts at h;split at h
   ·rename_i t r x;exact base (Builtin.len_ uW ty #[x]) (fun cs=>rfl) (CN (t:=t) (.inr ⟨r,HA⟩) h)
   ·rename_i k x r;cases hm:np x r with
    |none=>simp only[hm,no] at h
    |some m=>
     simp only[hm] at h;exact base (Builtin.min_ uW ty ⟨.int k x::r⟩) (fun cs=>rfl) ⟨_,xt hm,h⟩
   ·rename_i k x r;cases hm:AN x r with
    |none=>simp only[hm,no] at h
    |some m=>
     simp only[hm] at h;exact base (Builtin.max_ uW ty ⟨.int k x::r⟩) (fun cs=>rfl) ⟨_,CL hm,h⟩
   ·simp[cls] at hc
   ·simp[cls] at hc
   ·simp[cls] at hc
   ·simp[cls] at hc
   ·exact h.elim
def AH(hE:oA P E)(hs:Sub n e a){o:Oper}(hc:cls P o.op=0)(h:tH P T E e o.op o.type K w):Pure P (execOp a.eval o) w K:=by
 obtain⟨dst,op,ty,pos,after,guard⟩:=o;simp only at hc h;cases op<;>simp[cls] at hc<;>simp only[tH] at h
 case move x=>
  cases hx:ev e x with
  |none=>simp only[hx,no] at h
  |some v=>simp only[hx] at h;exact .of_eq v (by simp only[execOp,hs.eval hx]) h
 case assign x=>
  cases hx:ev e x with
  |none=>simp only[hx,no] at h
  |some v=>simp only[hx] at h;exact .of_eq v (by simp only[execOp,hs.eval hx]) h
 case pick c x y=>
  cases hx:ev e c with
  |none=>simp only[hx,no] at h
  |some v=>
   cases v<;>simp only[hx,no] at h
   rename_i b;cases b with
   |true=>
    simp only[br] at h;cases hy:ev e x with
    |none=>simp only[hy,no] at h
    |some u=>simp only[hy] at h;exact .of_eq u (by simp only[execOp,hs.eval hx,hs.eval hy,asBool,pure_bind,if_true]) h
   |false=>
    simp only[br] at h;cases hy:ev e y with
    |none=>simp only[hy,no] at h
    |some u=>simp only[hy] at h;exact .of_eq u (by simp only[execOp,hs.eval hx,hs.eval hy,asBool,pure_bind,ad0,if_false]) h
 case nilCheck x=>
  cases hx:ev e x with
  |none=>simp only[hx,no] at h
  |some v=>
   simp only[hx] at h;unfold RZ at h;split at h
   ·rename_i p;cases p with
    |none=>exact h.elim
    |some p=>simp only[nn] at h;exact .of_eq _ (by simp only[execOp,hs.eval hx]) h
   ·exact .of_eq _ (by simp only[execOp,hs.eval hx]) h
   ·exact h.elim
 case binOp op t x y u=>
  cases hx:ev e x with
  |none=>simp only[hx,no] at h
  |some v=>
   cases hy:ev e y with
   |none=>simp only[hx,hy,no] at h
   |some u=>
    simp only[hx,hy] at h;simp only[execOp,hs.eval hx,hs.eval hy];exact PV.pure (Lj hE h)
 case unOp op t x=>
  cases hx:ev e x with
  |none=>simp only[hx,no] at h
  |some v=>
   simp only[hx] at h;simp only[execOp,hs.eval hx];exact PV.pure (Ma h)
 case makeFunc fn first cap=>
  cases hx:K1 e first.toList with
  |none=>simp only[hx,no] at h
  |some f=>
   cases hy:K1 e cap.toList with
   |none=>simp only[hx,hy,no] at h
   |some c=>
    simp only[hx,hy] at h;simp only[execOp,hs.D7 hx,hs.D7 hy];exact PV.pure ⟨_,fun w'=>rfl,h⟩
 case slice t x lo hi mx=>
  cases mx with
  |some _=>simp only[no] at h
  |none=>
   simp only at h;cases hx:ev e x with
   |none=>simp only[hx,no] at h
   |some v=>
    cases hl:Pb e lo with
    |none=>simp only[hx,hl,no] at h
    |some l=>
     cases hh:Pb e hi with
     |none=>simp only[hx,hl,hh,no] at h
     |some u=>
      simp only[hx,hl,hh] at h;simp only[execOp,hs.eval hx];exact PV.pure (E2 (hs.Pb hl) (hs.Pb hh) h)
 case fieldAddr t x f=>
  cases hx:ev e x with
  |none=>simp only[hx,no] at h
  |some v=>
   simp only[hx] at h;simp only[execOp,hs.eval hx];exact PV.pure (y7 h)
 case field t x f=>
  cases hx:ev e x with
  |none=>simp only[hx,no] at h
  |some v=>
   simp only[hx] at h;simp only[execOp,hs.eval hx];exact PV.pure (F7 h)
 case indexAddr t x i=>
  cases hx:ev e x with
  |none=>simp only[hx,no] at h
  |some v=>
   cases hy:ev e i with
   |none=>simp only[hx,hy,no] at h
   |some j=>
    simp only[hx,hy] at h;simp only[execOp,hs.eval hx,hs.eval hy];exact PV.pure (yZ h)
 case index t x i=>
  cases hx:ev e x with
  |none=>simp only[hx,no] at h
  |some v=>
   cases hy:ev e i with
   |none=>simp only[hx,hy,no] at h
   |some j=>
    simp only[hx,hy] at h;simp only[execOp,hs.eval hx,hs.eval hy];exact PV.pure (FJ h)
 case extract x i=>
  cases hx:ev e x with
  |none=>simp only[hx,no] at h
  |some v=>
   cases v<;>simp only[hx,no] at h
   rename_i vs;cases hv:vs[i]? with
   |none=>simp only[hv,no] at h
   |some u=>
    simp only[hv] at h;simp only[execOp,hs.eval hx];exact PV.pure ⟨u,fun w'=>by simp[Instr.extract,hv],h⟩
 case build t ps=>
  cases hx:D8 e ps.toList with
  |none=>simp only[hx,no] at h
  |some l=>
   simp only[hx] at h;have hm:(ps.map fun(i,x)=>(i,a.eval x))=⟨l⟩:=by
    have:=hs.HS hx;apply afc;rw[Array.toList_map];exact this
   simp only[execOp,hm];exact PV.pure (Gr h)
 case convert s d x=>
  cases hx:ev e x with
  |none=>simp only[hx,no] at h
  |some v=>
   simp only[hx] at h;simp only[execOp,hs.eval hx];cases hd:P.underlying d with
   |none=>simp[hd] at hc
   |some dd=>
    cases dd<;>simp[hd] at hc
    unfold zC at h;cases OS:P.underlying s with
    |none=>simp only[OS,no] at h
    |some sd=>
     simp only[OS,hd] at h;cases v<;>simp only[no] at h
     exact PV.pure ⟨_,fun w'=>run_convert_int OS hd _ _ w',h⟩
 case call c=>
  simp only[execOp];exact Ef hs (by simp only[cls];exact hc) h
def AF(hE:oA P E)(hT:mr P T)(hs:Sub n e a){o:Oper}(h:tH P T E e o.op o.type K w):To P (execOp a.eval o) w K:=by
 by_cases hc:cls P o.op=0
 ·exact(AH hE hs hc h).to
 obtain⟨dst,op,ty,pos,after,guard⟩:=o;simp only at hc h;cases op<;>simp[cls] at hc<;>simp only[tH,no] at h
 case alloc t=>
  cases hz:zeroOf P t with
  |none=>simp only[hz,no] at h
  |some z=>
   simp only[hz] at h;cases hsf:Cq P t with
   |true=>rw[hsf] at h;exact SV.to (Lo hz h)
   |false=>rw[hsf] at h;exact SV.to (N' hz h)
 case box t x=>
  cases hx:ev e x with
  |none=>simp only[hx,no] at h
  |some v=>
   simp only[hx] at h;simp only[execOp,hs.eval hx];exact SV.to (WB h v rfl)
 case buildSlice t m ps=>
  cases hx:D8 e ps.toList with
  |none=>simp only[hx,no] at h
  |some l=>
   simp only[hx] at h;have hm:(ps.map fun(i,x)=>(i,a.eval x))=⟨l⟩:=by
    have:=hs.HS hx;apply afc;rw[Array.toList_map];exact this
   simp only[execOp,hm];exact SV.to (Cc h)
 case load t x=>
  cases hx:ev e x with
  |none=>simp only[hx,no] at h
  |some v=>
   cases v<;>simp only[hx,no] at h
   rename_i p;cases p with
   |none=>exact h.elim
   |some p=>
    simp only at h;simp only[execOp,hs.eval hx];obtain⟨v,cs,hH,hr,hk⟩:=su h;exact SV.to ⟨v,w,by simp[Instr.loadAt,Instr.sureAddr,hr w hH],hk⟩
 case store t x y=>
  cases hx:ev e x with
  |none=>simp only[hx,no] at h
  |some v=>
   cases hy:ev e y with
   |none=>cases v<;>simp only[hx,hy,no] at h
   |some u=>
    cases v<;>simp only[hx,hy,no] at h
    rename_i p;cases p with
    |none=>exact h.elim
    |some p=>
     simp only at h;simp only[execOp,hs.eval hx,hs.eval hy];obtain⟨w',hr,hk⟩:=BP h;exact .inr (.inl ⟨w',by simp[Instr.storeAt,Instr.sureAddr,hr],hk⟩)
 case convert s d x=>
  cases hx:ev e x with
  |none=>simp only[hx,no] at h
  |some v=>
   simp only[hx] at h;simp only[execOp,hs.eval hx];exact SV.to (H5 h)
 case makeSlice t m c=>
  cases hu:P.underlying t with
  |none=>simp only[hu,no] at h
  |some d=>
   cases hx:ev e m with
   |none=>cases d<;>simp only[hu,hx,no] at h
   |some mv=>
    cases hy:ev e c with
    |none=>cases d<;>simp only[hu,hx,hy,no] at h
    |some cv=>
     cases d<;>simp only[hu,hx,hy,no] at h
     cases mv<;>(try simp only[no] at h)
     cases cv<;>simp only[no] at h
     rename_i el k1 mi k2 ci;cases hi:P.info? el with
     |none=>simp only[hi,no] at h
     |some i=>
      simp only[hi] at h;cases hz:i.zero with
      |none=>simp only[hz,no] at h
      |some z=>
       simp only[hz] at h;cases hb:(Nat.blt 0 i.size&&aeX (dg z).length i.size) with
       |false=>simp only[hb,cond_false,no] at h
       |true=>
        simp only[hb,cond_true] at h;simp only[aet] at hb;simp only[execOp,hs.eval hx,hs.eval hy];exact SV.to (Qe hu hi hz (ad' hb.2) h)
 case call c=>
  simp only[execOp];exact H' hT hs h
end
def S2(F:Fn)(e:Env)(a:Act):Prop:=Sub F.n e a∧Sub F.n F.C a
def QS(F:Fn)(Q:Exit→Env→WK):Exit→Act→World→Prop:=fun ex a w=>(∃e,S2 F e a∧Q ex e w)∧∀c,ex≠.panic c
structure Ok(F:Fn):Prop where
 Cl:mr F.P F.T
 eqs:oA F.P F.E
 mixed:F.P.follows .mixedOrders=true
section
variable {F:Fn} {P:Program} {w:World} {e:Env} {a:Act} {ops:Array Oper}
def Ov{Q:Exit→Env→WK}{c:List PanicEntry}{a:Act}{w:World}: ¬QS F Q (.panic c) a w:=fun h=>h.2 c rfl
def qj{d:Option Tmp}{v:Value}{K:Env→WK}(hs:S2 F e a)(h:pt F.n F.C e d v K w):∃e',S2 F e' (a.put d v)∧K e' w:=by
 cases d with
 |none=>exact⟨e,hs,h⟩
 |some d=>
  simp only[pt] at h;cases hb:(Nat.blt d F.n&&cover F.C d) with
  |false=>simp only[hb,cond_false,no] at h
  |true=>
   simp only[hb,cond_true] at h;simp only[aet] at hb;have KI:=hs.1.put (by have:=hb.1;rwa[Nat.blt_eq] at this) v;refine⟨_,⟨KI,KI.size,KI.defers,fun t u ht=>?_⟩,h⟩;have ji:d≠t:=fun hd=>by
    subst hd;have:=hb.2;simp only[cover,ht,ad0] at this
   simp only[Act.put];rw[Array.getElem?_setIfInBounds_ne ji];exact hs.2.get t u ht
def EE{o:Oper}{K:VK}{next:Act→World→Prop}{Q:Exit→Act→World→Prop}(h:To P (execOp a.eval o) w K)(hk:∀v w',K v w'→next (a.put o.dst v) w'):o.wp P a w next Q:=by
 unfold Oper.wp;rcases h with⟨v,w',hr,h⟩|⟨w',hr,h⟩|⟨g,args,w',hr,h⟩
 ·rw[hr];exact hk _ _ h
 ·rw[hr];exact hk _ _ h
 ·rw[hr];refine Calls.mono h fun e VZ ⟨v,he,hv⟩=>?_;subst he;exact hk _ _ hv
def Nz{j:Nat}{d:Tmp}{b:Bool}(hd:KY ops j=some d)(h:lk e d=some (.bool b)){n:Nat}(hs:Sub n e a):yielded ops a.tmps j=some b:=by
 unfold KY at hd;unfold yielded;cases ho:ops[j]? with
 |none=>simp[ho] at hd
 |some o=>
  simp only[ho] at hd;simp only[Option.bind_some,hd,hs.get _ _ h]
def Dg(a b:Bool):Ii a b=(a==b):=by cases a<;>cases b<;>rfl
def o7{o:Oper}{run skip:Env→WK}{X:Prop}(hs:S2 F e a)(h:guarded ops o e run skip w)
 (hr:∀e',S2 F e' a→Region.wanted o (yielded ops a.tmps)=true→run e' w→X)
 (hk:∀e',S2 F e' a→Region.wanted o (yielded ops a.tmps)=false→skip e' w→X):X:=by
 unfold guarded at h;cases hg:o.guard with
 |none=>
  simp only[hg] at h;exact hr e hs (by simp[Region.wanted,hg]) h
 |some jw=>
  obtain⟨j,want⟩:=jw;simp only[hg] at h;cases hd:KY ops j with
  |none=>simp only[hd,no] at h
  |some d=>
   simp only[hd] at h;cases hl:lk e d with
   |none=>simp only[hl,no] at h
   |some v=>
    cases v<;>simp only[hl,no] at h
    case tuple vs=>
     refine hk e hs ?_ h;have:yielded ops a.tmps j=none:=by
      unfold KY at hd;unfold yielded;cases ho:ops[j]? with
      |none=>simp[ho] at hd
      |some o=>
       simp only[ho] at hd;simp only[Option.bind_some,hd,hs.1.get _ _ hl]
     simp only[Region.wanted,hg,this]
     rfl
    rename_i b;have hy:=Nz hd hl hs.1;have zy:S2 F _ a:=⟨hs.1.again hl,hs.2⟩;have hw:Region.wanted o (yielded ops a.tmps)=(b==want):=by
     simp only[Region.wanted,hg,hy];cases b<;>cases want<;>rfl
    cases b with
    |true=>
     simp only[br,Dg] at h;cases hb:(true==want) with
     |true=>simp only[hb,cond_true] at h;exact hr _ zy (by rw[hw,hb]) h
     |false=>simp only[hb,cond_false] at h;exact hk _ zy (by rw[hw,hb]) h
    |false=>
     simp only[br,Dg] at h;cases hb:(false==want) with
     |true=>simp only[hb,cond_true] at h;exact hr _ zy (by rw[hw,hb]) h
     |false=>simp only[hb,cond_false] at h;exact hk _ zy (by rw[hw,hb]) h
def uO{o:Oper}{K:Env→WK}(h:RY F ops o K e w):
 guarded ops o e (fun e=>tH F.P F.T F.E e o.op o.type fun v=>pt F.n F.C e o.dst v K) (fun e=>pt F.n F.C e o.dst undef K) w:=h
def vP(hF:Ok F){Q:Exit→Act→World→Prop}{K:Env→WK}(hK:∀e a w,S2 F e a→K e w→Q .normal a w):
 ∀(l:List Nat)(os:List Oper)(e:Env)(a:Act)(w:World),l.length=os.length→(∀k i:Nat,l[k]?=some i→ops[i]?=os[k]?)→S2 F e a→tC F ops os K e w→wpOps F.P ops Q l a w
 |[],[],e,a,w,_,_,hs,h=>hK e a w hs h
 |[],_::_,_,_,_,hl,_,_,_=>by simp at hl
 |_::_,[],_,_,_,hl,_,_,_=>by simp at hl
 |i::l,o::os,e,a,w,hl,hi,hs,h=>by
  have hio:ops[i]?=some o:=hi 0 i rfl;have rest:=fun e a w=>vP hF hK l os e a w (by simpa using hl) (fun(k j:Nat)(hk:l[k]?=some j)=>hi (k+1) j (by simpa using hk));rw[wpOps_cons];unfold wpOp;simp only[hio];refine o7 (F:=F) hs (uO h) (fun e' dh hw hr=>?_) (fun e' dh hw hr=>?_)
  ·rw[if_pos hw];refine .inl (EE (AF hF.eqs hF.Cl dh.1 hr) fun v w' hv=>?_);obtain⟨NP,tf,hk⟩:=qj dh hv;exact rest _ _ _ tf hk
  ·rw[if_neg (by rw[hw];exact ad4)];obtain⟨NP,tf,hk⟩:=qj dh hr;exact rest _ _ _ tf hk
abbrev SL:=List (Nat×(World→Prop))
def sW(o:Oper)(S:SL):SL:=S.filter fun p=> !waits o p.1
def wpAnyS(P:Program)(ops:Array Oper)(Q:Exit→Act→World→Prop):Nat→SL→Array Bool→Act→World→Prop
 |0,_,listed,a,w=>Region.ready .any ops listed=[]∧Q .normal a w
 |fuel+1,S,listed,a,w=>
  (Region.ready .any ops listed=[]→Q .normal a w)∧
  ∀i∈Region.ready .any ops listed,∀o,ops[i]?=some o→wpOp P ops Q i (fun a' w'=>(∀p∈sW o S,p.2 w')∧wpAnyS P ops Q fuel (sW o S) (listed.setIfInBounds i true) a' w') a w
def zP{Q:Exit→Act→World→Prop}:∀(fuel:Nat)(S:SL)(listed:Array Bool)(a:Act)(w:World),wpAnyS P ops Q fuel S listed a w→wpAny P .any ops Q fuel listed a w
 |0,_,_,_,_,h=>h
 |fuel+1,S,listed,a,w,h=>⟨h.1,fun i hi=>by
                          obtain⟨_,o,ho,_⟩:=mem_ready.1 hi
                          exact wpOp_mono (fun a' w' h'=>zP fuel _ _ a' w' h'.2) (h.2 i hi o ho)⟩
def pe{Q:Exit→Act→World→Prop}:∀(fuel:Nat)(S S':SL)(listed:Array Bool)(a:Act)(w:World),(∀p∈S',p∈S∨∀w,p.2 w)→wpAnyS P ops Q fuel S listed a w→wpAnyS P ops Q fuel S' listed a w
 |0,_,_,_,_,_,_,h=>h
 |fuel+1,S,S',listed,a,w,TQ,h=>⟨h.1,fun i hi o ho=>by
                                have hs:∀p∈sW o S',p∈sW o S∨∀w,p.2 w:=fun p hp=>by
                                 simp only[sW,List.mem_filter] at hp⊢
                                 exact(TQ _ hp.1).imp (fun h=>⟨h,hp.2⟩) id
                                exact wpOp_mono (fun a' w' h'=>⟨fun p hp=>(hs p hp).elim (h'.1 p) (fun h=>h w'),pe fuel _ _ _ a' w' hs h'.2⟩) (h.2 i hi o ho)⟩
def wpAnyS_first{Q:Exit→Act→World→Prop}{i:Nat}{oi:Oper}{v:Value}{Y:World→Prop}(hi:ops[i]?=some oi)(xz:∀(j:Nat)(o:Oper) cs b,ops[j]?=some o→o.op≠.select cs b)
 (hQ:∀c a w,Q (.panic c) (a.put oi.dst v) w→Q (.panic c) a w):
 ∀(fuel:Nat)(S:SL)(listed:Array Bool)(a:Act)(w:World),
  (∀j oj,ops[j]?=some oj→j≠i→listed.getD j true=false→(∀e∈oj.after,Region.binds .any e=true→e.on≠i)→oi.apart ops oj=true)→
  i∈Region.ready .any ops listed→YieldsIf P ops Y oi v a→Y w→(∀p∈S,p.2 w)→
  wpAnyS P ops Q fuel ((i,Y)::S) (listed.setIfInBounds i true) (a.put oi.dst v) w→wpAnyS P ops Q (fuel+1) S listed a w:=by
 intro fuel
 induction fuel with
 |zero=>
  intro S listed a w _ hr hy hY hS H;refine⟨fun h=>(by rw[h] at hr;cases hr),fun j hj o ho=>?_⟩;by_cases FW:j=i
  ·subst FW;rw[hi] at ho;cases ho
   exact hy.wpOp hi hY ⟨fun p hp=>hS p (List.mem_filter.1 hp).1,H⟩
  ·have:=ready_mono hj FW;rw[H.1] at this;cases this
 |succ fuel ih=>
  intro S listed a w CX hr hy hY hS H;refine⟨fun h=>(by rw[h] at hr;cases hr),fun j hj o ho=>?_⟩;by_cases FW:j=i
  ·subst FW;rw[hi] at ho;cases ho
   refine hy.wpOp hi hY ⟨fun p hp=>hS p (List.mem_filter.1 hp).1,?_⟩;exact pe _ _ _ _ _ _ (fun p hp=>.inl (aeE _ (List.mem_filter.1 hp).1)) H
  ·have h1:=H.2 j (ready_mono hj FW) o ho;obtain⟨Xf,oj,hoj,hU⟩:=mem_ready.1 hj;rw[ho] at hoj;cases hoj
   have YW:=(mem_ready.1 hr).1;have W2:∀e∈o.after,Region.binds .any e=true→e.on≠i:=fun e he hb heq=>by
    have h1:=hU e he hb;have h0:=YW;rw[heq] at h1;rcases Nat.lt_or_ge i listed.size with h'|h'
    ·simp[h'] at h0 h1;rw[h0] at h1;cases h1
    ·simp[Array.getElem?_eq_none h'] at h1
   have hnw:waits o i=false:=by
    cases hw:waits o i with
    |false=>rfl
    |true=>
     simp only[waits,Array.any_eq_true'] at hw;obtain⟨e,he,hb⟩:=hw;simp only[aet] at hb;exact absurd (ad' hb.2) (W2 e he hb.1)
   have Xr:sW o ((i,Y)::S)=(i,Y)::sW o S:=by simp[sW,hnw]
   rw[Xr] at h1;have h2:=wpOp_putIf ho (CX j o ho FW Xf W2) (fun cs b=>xz i oi cs b hi) (fun cs b=>xz j o cs b ho) hQ hy h1;have Ud:∀k ok,ops[k]?=some ok→k≠i→(listed.setIfInBounds j true).getD k true=false→
      (∀e∈ok.after,Region.binds .any e=true→e.on≠i)→oi.apart ops ok=true:=fun k ok hk Ua YW DU=>by
    refine CX k ok hk Ua ?_ DU;by_cases hjk:j=k
    ·subst hjk;exact Xf
    ·rw[getD_set_ne true hjk] at YW;exact YW
   refine wpOp_mono (fun a' w' h3=>?_) h2;have hY':Y w':=h3.2.1 (i,Y) (by simp);have Zb:∀p∈sW o S,p.2 w':=fun p hp=>h3.2.1 p (by simp[hp]);refine⟨Zb,ih (sW o S) (listed.setIfInBounds j true) a' w' Ud (ready_mono hr (Ne.symm FW)) h3.1 hY' Zb ?_⟩;rw[Array.setIfInBounds_comm _ _ FW];exact h3.2.2
def YS(S:y9):SL:=S.map fun p=>(p.1,fun w=>ta w p.2.1 p.2.2)
def Oh(o:Oper)(S:y9):YS (stays o S)=sW o (YS S):=by
 induction S with
 |nil=>rfl
 |cons p S ih=>
  simp only[YS,stays,sW,aeb,List.filter_cons] at ih⊢;cases waits o p.1<;>simp[ih]
def FH:∀{S:y9} {K:WK} {w:World},kY S K w→(∀p∈YS S,p.2 w)∧K w
 |[],_,_,h=>⟨by simp[YS],h⟩
 |(i,b,cs)::S,K,w,h=>by
  obtain⟨h1,h2⟩:=h;obtain⟨h3,h4⟩:=FH h2;refine⟨fun p hp=>?_,h4⟩;simp only[YS,aeb,aeS] at hp;rcases hp with rfl|hp
  ·exact h1
  ·exact h3 p hp
def GC:∀{l:List Nat} {f:Nat→WK} {w:World},U4 l f w→∀i∈l,f i w
 |[],_,_,_,i,hi=>by simp at hi
 |[j],f,w,h,i,hi=>by simp at hi;subst hi;exact h
 |j::k::r,f,w,h,i,hi=>by
  rcases aeS.1 hi with rfl|hi
  ·exact h.1
  ·exact GC (l:=k::r) h.2 i hi
def MO(hE:oA F.P F.E)(hs:Sub F.n e a){i:Nat}{o:Oper}{S:y9}{K:y9→VK}(hq:Nat.blt (cls F.P o.op) 2=true)(h:PY F e i o S K w)(hS:∀p∈YS S,p.2 w):
 ∃v Y S',(∀w',Y w'→(execOp a.eval o).run F.P w'=.ok (.value v) w')∧Y w∧K S' v w∧(∀p∈YS S',p.2 w)∧(∀p∈(i,Y)::YS S,p∈YS S'∨∀w,p.2 w):=by
 rw[Nat.blt_eq] at hq;by_cases hc:cls F.P o.op=0
 ·have:tH F.P F.T F.E e o.op o.type (K S) w:=by
   unfold PY at h;generalize T2:o.op=op at h;split at h
   ·rw[T2] at hc;simp[cls] at hc
   ·exact h
  obtain⟨v,hr,hk⟩:=AH hE hs hc this;exact⟨v,fun _=>True,S,fun w' _=>hr w',trivial,hk,hS,fun p hp=>by
   rcases aeS.1 hp with rfl|hp
   ·exact .inr fun _=>trivial
   ·exact .inl hp⟩
 ·have h1:cls F.P o.op=1:=by omega
  obtain⟨dst,op,ty,pos,after,guard⟩:=o;simp only at h1;have:∃t x,op=.load t x:=by
   cases op<;>simp only[cls] at h1<;>first
    |exact⟨_,_,rfl⟩
    |(exfalso;omega)
    |(exfalso;revert h1;split<;>omega)
    |(exfalso;revert h1;split<;>(try split)<;>omega)
  obtain⟨t,x,rfl⟩:=this;simp only[PY] at h;cases hx:ev e x with
  |none=>simp only[hx,no] at h
  |some v=>
   cases v<;>simp only[hx,no] at h
   rename_i p;cases p with
   |none=>exact h.elim
   |some p=>
    simp only at h;obtain⟨v,cs,hH,hr,hk⟩:=su h;refine⟨v,fun w'=>ta w' p cs,(i,p,cs)::S,fun w' LD=>?_,hH,hk,fun q hq=>?_,fun q hq=>.inl (by simpa [YS] using hq)⟩
    ·simp only[execOp,hs.eval hx];simp[Instr.loadAt,Instr.sureAddr,hr w' LD]
    ·simp only[YS,aeb,aeS] at hq;rcases hq with rfl|hq
     ·exact hH
     ·exact hS q hq
def nt(hF:Ok F)(xz:Region.noSelect ops=true){Q:Exit→Act→World→Prop}(hQ:∀c a w,¬Q (.panic c) a w){K:Env→WK}(hK:∀e a w,S2 F e a→K e w→Q .normal a w):
 ∀(f:Nat)(listed:Array Bool)(S:y9)(e:Env)(a:Act)(w:World),S2 F e a→(∀p∈YS S,p.2 w)→qR F ops K f listed S e w→wpAnyS F.P ops Q f (YS S) listed a w
 |0,listed,S,e,a,w,hs,hS,h=>by
  simp only[qR] at h;cases hr:Region.ready .any ops listed with
  |nil=>simp only[hr] at h;exact⟨hr,hK e a w hs h⟩
  |cons r rs=>simp only[hr,no] at h
 |f+1,listed,S,e,a,w,hs,hS,h=>by
  simp only[qR] at h;cases hr:Region.ready .any ops listed with
  |nil=>
   simp only[hr] at h;exact⟨fun _=>hK e a w hs h,fun i hi=>by rw[hr] at hi;simp at hi⟩
  |cons r rs=>
   simp only[hr] at h;cases hf:(r::rs).find? (quietAt F.P ops) with
   |some i=>
    simp only[hf] at h;have mQ:i∈Region.ready .any ops listed:=by rw[hr];exact aey hf
    have Ni:=List.find?_some hf;cases ho:ops[i]? with
    |none=>simp only[ho,no] at h
    |some o=>
     simp only[ho] at h;simp only[quietAt,ho] at Ni;cases CX:Region.free .any ops listed i with
     |false=>simp only[CX,cond_false,no] at h
     |true=>
      simp only[CX,cond_true] at h;have wB:=Region.free_spec ho CX;refine o7 (F:=F) hs h (fun e' dh hw mn=>?_) (fun e' dh hw mn=>?_)
      ·obtain⟨v,Y,S',hy,hY,hk,Zb,TQ⟩:=MO hF.eqs dh.1 Ni mn hS;obtain⟨NP,tf,hk⟩:=qj dh hk;have ih:=nt hF xz hQ hK f _ S' NP _ w tf Zb hk;exact wpAnyS_first ho (Region.noSelect_spec xz) (fun c a w h=>(hQ _ _ _ h).elim) f (YS S) listed a w wB mQ (.inl ⟨hw,hy⟩) hY hS (pe _ _ _ _ _ _ TQ ih)
      ·obtain⟨NP,tf,hk⟩:=qj dh mn;have ih:=nt hF xz hQ hK f _ S NP _ w tf hS hk;refine wpAnyS_first (Y:=fun _=>True) ho (Region.noSelect_spec xz) (fun c a w h=>(hQ _ _ _ h).elim) f (YS S) listed a w wB mQ (.inr ⟨hw,rfl⟩) trivial hS
        (pe _ _ _ _ _ _ (fun p hp=>by
         rcases aeS.1 hp with rfl|hp
         ·exact .inr fun _=>trivial
         ·exact .inl hp) ih)
   |none=>
    simp only[hf] at h;refine⟨fun h0=>(by rw[hr] at h0;cases h0),fun i hi o ho=>?_⟩;have qA:=GC h i (by rw[←hr];exact hi);simp only[ho] at qA;unfold wpOp;simp only[ho];refine o7 (F:=F) hs qA (fun e' dh hw mn=>?_) (fun e' dh hw mn=>?_)
    ·rw[if_pos hw];refine .inl (EE (AF hF.eqs hF.Cl dh.1 mn) fun v w' hv=>?_);obtain⟨hk,hv⟩:=FH hv;obtain⟨NP,tf,xD⟩:=qj dh hv;rw[←Oh];exact⟨hk,nt hF xz hQ hK f _ _ NP _ w' tf hk xD⟩
    ·rw[if_neg (by rw[hw];exact ad4)];obtain⟨NP,tf,xD⟩:=qj dh mn;have ih:=nt hF xz hQ hK f _ S NP _ w tf hS xD;refine⟨fun p hp=>hS p (List.mem_filter.1 hp).1,pe _ _ _ _ _ _ (fun p hp=>.inl (List.mem_filter.1 hp).1) ih⟩
def kW{n:Nat}{e:Env}{a:Act}(hs:Sub n e a):∀{l:List (Nat×Value)} {vs:LV},rC e l=some vs→
 (∀t v,lk (vH l vs []) t=some v→a.tmps[t]?=some v)∧vs=l.map (fun p=>a.tmps.getD p.1 undef)∧(∀f,By (l.map (·.2)) f→f vs)
 |[],vs,h=>by
  simp only[rC,adU.injEq] at h;subst h;exact⟨fun t v h=>by simp[vH,lk] at h,rfl,fun f h=>h⟩
 |(t,z)::l,vs,h=>by
  simp only[rC] at h;cases h1:lk e t with
  |none=>simp[h1] at h
  |some v=>
   simp only[h1] at h;cases h2:fits z v with
   |false=>simp[h2] at h
   |true=>
    simp only[h2,cond_true] at h;cases h3:rC e l with
    |none=>simp[h3] at h
    |some us=>
     simp only[h3,adU.injEq] at h;subst h;obtain⟨i1,i2,i3⟩:=kW hs h3;refine⟨fun s u YZ=>?_,?_,fun f hf=>?_⟩
     ·simp only[vH,sw] at YZ;split at YZ
      ·rename_i HA;subst HA;cases YZ;exact hs.get _ _ h1
      ·exact i1 s u YZ
     ·simp only[aeb,←i2];have:=hs.get t v h1;rw[Array.getD_eq_getD_getElem?,this];rfl
     ·simp only[aeb,By] at hf;have key:By (l.map (·.2)) fun vs=>f (v::vs):=by
       cases z<;>cases v<;>simp only[fits,ad0,decide_eq_true_eq] at h2<;>simp only[YI] at hf<;>first
        |(rename_i p q;cases p<;>cases q<;>simp only[fits,ad0] at h2<;>exact hf _)
        |exact hf _
        |exact hf _ _ _
        |(subst h2;exact hf _)
        |(rename_i cs;exact hf cs.toList)
      exact i3 _ key
def Jd:∀(l:List (Nat×Value))(vs:LV)(C:Env)(t:Nat)(v:Value),lk (vH l vs C) t=some v→lk (vH l vs []) t=some v∨lk C t=some v
 |[],vs,C,t,v,h=>by cases vs<;>(simp only[vH] at h;exact .inr h)
 |(s,z)::l,[],C,t,v,h=>by simp only[vH] at h;exact .inr h
 |(s,z)::l,u::vs,C,t,v,h=>by
  simp only[vH,sw] at h⊢;split at h
  ·rename_i qz;rw[if_pos qz];exact .inl h
  ·rename_i qz;rw[if_neg qz];exact Jd l vs C t v h
def S2.zip(hs:S2 F e a){l:List (Nat×Value)}{vs:LV}(h:rC e l=some vs):S2 F (vH l vs F.C) a:=by
 refine⟨⟨hs.1.size,hs.1.defers,fun t v ht=>?_⟩,hs.2⟩;rcases Jd l vs F.C t v ht with h'|h'
 ·exact(kW hs.1 h).1 t v h'
 ·exact hs.2.get t v h'
def K7(hF:Ok F):∀(c:Code)(Q:Exit→Env→WK)(e:Env)(a:Act)(w:World),S2 F e a→den F c Q e w→c.wp F.P (QS F Q) a w:=by
 intro c
 induction c with
 |skip=>intro Q e a w hs h;exact wp_skip ⟨⟨e,hs,h⟩,by simp⟩
 |ret=>intro Q e a w hs h;exact wp_ret ⟨⟨e,hs,h⟩,by simp⟩
 |exit i=>intro Q e a w hs h;exact wp_exit ⟨⟨e,hs,h⟩,by simp⟩
 |seq x y ZX ZW=>
  intro Q e a w hs h;refine wp_seq (wp_mono (ZX _ e a w hs h) ?_);rintro ex a' w' ⟨⟨e',dh,hq⟩,hp⟩;cases ex<;>simp only[J5] at hq
  case normal=>exact ZW Q e' a' w' dh hq
  all_goals exact⟨⟨e',dh,hq⟩,hp⟩
 |cond x c1 c2 WI OO=>
  intro Q e a w hs h;simp only[den] at h;cases hx:ev e x with
  |none=>simp only[hx,no] at h
  |some v=>
   cases v<;>simp only[hx,no] at h
   rename_i b;cases b with
   |true=>exact wp_cond_true (hs.1.eval hx) (WI Q e a w hs h)
   |false=>exact wp_cond_false (hs.1.eval hx) (OO Q e a w hs h)
 |block i c ih=>
  intro Q e a w hs h;refine wp_block (wp_mono (ih _ e a w hs h) ?_);rintro ex a' w' ⟨⟨e',dh,hq⟩,hp⟩;cases ex<;>simp only[Ie] at hq
  case exit j=>
   simp only[Exit.inBlock];cases hb:aeX j i with
   |true=>rw[if_pos (ad' hb)];simp only[hb,cond_true] at hq;exact⟨⟨e',dh,hq⟩,by simp⟩
   |false=>
    have ji:j≠i:=fun h=>by simp[h] at hb
    rw[if_neg ji];simp only[hb,cond_false] at hq;exact⟨⟨e',dh,hq⟩,by simp⟩
  all_goals exact⟨⟨e',dh,hq⟩,hp⟩
 |loop c ih=>
  intro Q e a w hs h;simp only[den] at h;cases hl:JL F.Ll (key c) with
  |none=>simp only[hl,no] at h
  |some l=>
   simp only[hl] at h;cases hv:rC e l with
   |none=>simp only[hv,no] at h
   |some vs=>
    simp only[hv] at h;obtain⟨I,μ,h0,HE⟩:=h;have Nh:=(kW hs.1 hv).2.1;refine wp_loop (fun a w=>S2 F (vH l (l.map fun p=>a.tmps.getD p.1 undef) F.C) a∧I (l.map fun p=>a.tmps.getD p.1 undef) w∧∀f,By (l.map (·.2)) f→f (l.map fun p=>a.tmps.getD p.1 undef))
     (fun a w=>μ (l.map fun p=>a.tmps.getD p.1 undef) w) ?_ ?_
    ·rw[←Nh];exact⟨hs.zip hv,h0,(kW hs.1 hv).2.2⟩
    ·intro a1 w1 ⟨uI,hI1,hU⟩;have hr:=hU _ HE w1 hI1;refine wp_mono (ih _ _ a1 w1 uI hr) ?_;rintro ex a' w' ⟨⟨e',dh,hq⟩,hp⟩;cases ex<;>simp only[J5] at hq
     case normal=>
      simp only[M'] at hq;cases yr:rC e' l with
      |none=>simp only[yr,no] at hq
      |some BK=>
       simp only[yr] at hq;have HF:=(kW dh.1 yr).2.1;simp only[Exit.then];rw[←HF];exact⟨⟨dh.zip yr,hq.1,(kW dh.1 yr).2.2⟩,hq.2⟩
     all_goals exact⟨⟨e',dh,hq⟩,hp⟩
 |region id ops draw=>
  intro Q e a w hs h;simp only[den] at h;cases draw with
  |true=>
   simp only[cond_true] at h;cases xz:Region.noSelect ops with
   |false=>simp only[xz,cond_false,no] at h
   |true=>
    simp only[xz,cond_true,tick] at h;refine wp_region_any hF.mixed ?_;rw[World.drew_eq];exact zP _ _ _ _ _ (nt hF xz (fun c a w=>Ov) (fun e a w hs hk=>⟨⟨e,hs,hk⟩,by simp⟩) _ _ [] e a _ hs (by simp[YS]) h)
  |false=>
   simp only[cond_false] at h;refine wp_region (vP hF (fun e a w hs hk=>⟨⟨e,hs,hk⟩,by simp⟩) (ae7 ops.size) ops.toList e a w (by simp) (fun k i hk=>?_) hs h);rw[ae3] at hk
   ·simp only[adU.injEq] at hk;subst hk;simp
   ·have:=(adC.1 hk).1;simpa using this
 |_=>intro Q e a w hs h;exact h.elim
def J9(P:Program)(e:Env):List ResultVar→(LV→WK)→WK
 |[],K=>K []
 | .tmp t::r,K=>match lk e t with
   |some v=>J9 P e r fun vs=>K (v::vs)
   |none=>no
 | .cell b t::r,K=>match lk e b with
   |some (.pointer (some a))=>wo P t a fun _ v=>J9 P e r fun vs=>K (v::vs)
   |_=>no
def Tq(vs:LV):Value:=match vs with|[v]=>v|vs=>.tuple ⟨vs⟩
def Tr(P:Program)(rs:List ResultVar)(K:VK)(e:Env):WK:=J9 P e rs fun vs=>K (Tq vs)
def ZK(P:Program)(rs:List ResultVar)(K:VK):Exit→Env→WK
 | .normal,e=>Tr P rs K e
 | .ret,e=>Tr P rs K e
 |_,_=>no
def uX(DN:List Nat)(want:Bool):Nat→LV→Env
 |_,[]=>[]
 |i,v::vs=>bif Ii (DN.any (aeX i)) want then(i,v)::uX DN want (i+1) vs else uX DN want (i+1) vs
def FC(m:List Nat)(b:Bool):∀(vs:LV)(i t:Nat)(v:Value),lk (uX m b i vs) t=some v→i≤t∧vs[t-i]?=some v
 |[],i,t,v,h=>by simp[uX,lk] at h
 |u::vs,i,t,v,h=>by
  simp only[uX] at h;have rest:lk (uX m b (i+1) vs) t=some v→i≤t∧(u::vs)[t-i]?=some v:=fun h=>by
   obtain⟨h1,h2⟩:=FC m b vs (i+1) t v h;refine⟨by omega,?_⟩;rw[show t-i=(t-(i+1))+1 from by omega];simpa using h2
  cases hb:Ii (m.any (aeX i)) b with
  |false=>simp only[hb,cond_false] at h;exact rest h
  |true=>
   simp only[hb,cond_true,sw] at h;split at h
   ·rename_i hit;subst hit;cases h;exact⟨adG _,by simp⟩
   ·exact rest h
def CM:∀(e f:Env)(t:Nat)(v:Value),lk (e++f) t=some v→lk e t=some v∨lk f t=some v
 |[],f,t,v,h=>.inr h
 |(s,u)::e,f,t,v,h=>by
  simp only[aeN,sw] at h⊢;split at h
  ·rename_i hs;rw[if_pos hs];exact .inl h
  ·rename_i hs;rw[if_neg hs];exact CM e f t v h
def Kb(tm:Array Value):ResultVar→Sem Value
 | .tmp t=>pure (tm.getD t undef)
 | .cell b t=>do loadVar t (←asAddr (tm.getD b undef))
def Hl(fn:Func)(tm:Array Value):results fn tm=(do let vs←fn.results.mapM (Kb tm);pure (if h:vs.size=1 then vs[0] else .tuple vs)):=by
 unfold results
 congr 1
def xi{n:Nat}{e:Env}{a:Act}(hs:Sub n e a):∀{rs:List ResultVar} {K:LV→WK},J9 P e rs K w→∃vs,(rs.mapM (Kb a.tmps)).run P w=.ok vs w∧K vs w
 |[],K,h=>⟨[],rfl,h⟩
 | .cell b t::r,K,h=>by
   simp only[J9] at h;cases h1:lk e b with
   |none=>simp only[h1,no] at h
   |some v=>
    cases v<;>simp only[h1,no] at h
    rename_i p;cases p with
    |none=>exact h.elim
    |some p=>
     simp only at h;obtain⟨v,cs,hH,hr,hk⟩:=su h;obtain⟨vs,h2,hk⟩:=xi hs hk;have hg:a.tmps.getD b undef=.pointer (some p):=by rw[Array.getD_eq_getD_getElem?,hs.get b _ h1];rfl
     refine⟨v::vs,?_,hk⟩;have h3:(Kb a.tmps (.cell b t)).run P w=.ok v w:=by
      simp only[Kb,hg,asAddr,pure_bind];exact hr w hH
     rw[List.mapM_cons,Sem.run_bind,h3,Result.andThen_ok,Sem.run_bind,h2];rfl
 | .tmp t::r,K,h=>by
   simp only[J9] at h;cases h1:lk e t with
   |none=>simp only[h1,no] at h
   |some v=>
    simp only[h1] at h;obtain⟨vs,h2,hk⟩:=xi hs h;have hg:a.tmps.getD t undef=v:=by rw[Array.getD_eq_getD_getElem?,hs.get t v h1];rfl
    refine⟨v::vs,?_,hk⟩;rw[List.mapM_cons,Sem.run_bind,Kb,Sem.run_pure,Result.andThen_ok,Sem.run_bind,h2,hg];rfl
def body(P:Program)(T:Ek)(E:OF)(n:Nat)(m:List Nat)(Ll:List (Nat×List (Nat×Value)))(rs:List ResultVar)(c:Code):WP:=fun args K=>
 den ⟨P,T,E,n,uX m false 0 args,Ll⟩ c (ZK P rs K) (uX m true 0 args++uX m false 0 args)
def NG{P:Program}{T:Ek}{E:OF}{g:Nat}{fn:Func}{c:Code}{p:WP}(m:List Nat)(Ll:List (Nat×List (Nat×Value)))(hT:mr P T)(hE:oA P E)(hm:P.follows .mixedOrders=true)
 (hf:P.funcs[g]?=some fn)(hb:fn.body=some c)(W4:(fn.name== "runtime.NumGoroutine")=false)(hp:∀args K w,p args K w→args.length≤fn.ntmps∧body P T E fn.ntmps m Ll fn.results.toList c args K w):Entry P g p:=by
 refine⟨⟨fn,hf,W4,by rw[hb];rfl⟩,fun args K w h=>?_⟩;obtain⟨hlen,h⟩:=hp args K w h;refine calls_of_wp hf hb ?_;have oE:(⟨args⟩++aeI (fn.ntmps-(⟨args⟩:Array Value).size) undef:Array Value).size=fn.ntmps:=by
  simp;omega
 have wA:∀(b:Bool) t v,lk (uX m b 0 args) t=some v→(⟨args⟩++aeI (fn.ntmps-(⟨args⟩:Array Value).size) undef:Array Value)[t]?=some v:=fun b t v ht=>by
  obtain⟨_,h2⟩:=FC m b args 0 t v ht;simp only[Nat.sub_zero] at h2;have a8:t<args.length:=(adC.1 h2).1;rw[Array.getElem?_append_left (by simpa using a8)];simpa using h2
 refine wp_mono (K7 ⟨hT,hE,hm⟩ c _ _ ⟨⟨args⟩++aeI (fn.ntmps-(⟨args⟩:Array Value).size) undef,[]⟩ w ⟨⟨oE,rfl,fun t v ht=>?_⟩,⟨oE,rfl,fun t v ht=>wA false t v ht⟩⟩ h) ?_
 ·rcases CM _ _ t v ht with h'|h'
  ·exact wA true t v h'
  ·exact wA false t v h'
 ·rintro ex a' w' ⟨⟨e',dh,hq⟩,hpn⟩;have fin:Tr P fn.results.toList K e' w'→a'.defers=[]∧∃v,(results fn a'.tmps).run P w'=.ok v w'∧∃u,(Ending.returned v)=.returned u∧K u w':=by
   intro hr;obtain⟨vs,this,hk⟩:=xi dh.1 hr;refine⟨dh.1.defers,Tq vs,?_,_,rfl,hk⟩;have Js:(fn.results.mapM (Kb a'.tmps)).run P w'=.ok ⟨vs⟩ w':=by
    rw[←Array.toArray_toList (xs:=fn.results),List.mapM_toArray,Sem.run_map,this];rfl
   rw[Hl,Sem.run_bind,Js];simp only[Result.andThen_ok,Sem.run_pure]
   congr 1
   unfold Tq;cases vs with
   |nil=>rfl
   |cons v vs=>
    cases vs with
    |nil=>rfl
    |cons u vs=>simp
  cases ex with
  |normal=>exact fin hq
  |ret=>exact fin hq
  |exit i=>exact hq.elim
  |goto i=>exact hq.elim
  |panic c=>exact absurd rfl (hpn c)
  |outgrown=>exact hq.elim
end
end Go.Den
namespace Go.Sep
open Go.Den Go.RowKit
inductive LY where
 |cells(cs:LV)
 |obj(o:Obj)
abbrev HP:=(Nat→Option LY)→Prop
abbrev LH:=List HP
def view(w:World)(b:Nat):Option LY:=
 match w.heap[b]? with
 |some (.cells c _ fz)=>if c.size≤fz.1∨fz.2=0 then some (.cells c.toList) else none
 |some o=>some (.obj o)
 |none=>none
def sep(A B:HP):HP:=fun h=>∃h1 h2,(∀b,h1 b=none∨h2 b=none)∧(∀b,h b=(h1 b).or (h2 b))∧A h1∧B h2
def yT:LH→HP
 |[]=>fun _=>True
 |A::L=>sep A (yT L)
def pt(b:Nat)(cs:LV):HP:=fun h=>h b=some (.cells cs)
def ob(b:Nat)(o:Obj):HP:=fun h=>h b=some (.obj o)
def Sq{α:Type}(f:α→HP):HP:=fun h=>∃x,f x h
def Lm(p:Prop)(A:HP):HP:=fun h=>p∧A h
def St(W w:World)(L:LH):Prop:=Below W.heap.size W w∧∃h,yT L h∧∀b cs,h b=some cs→W.heap.size≤b∧view w b=some cs
def vQ{A B:HP}{h:Nat→Option LY}(x:sep A B h):sep B A h:=by
 obtain⟨h1,h2,hd,hu,ha,hb⟩:=x;refine⟨h2,h1,fun b=>(hd b).symm,fun b=>?_,hb,ha⟩;rw[hu b];rcases hd b with h|h<;>simp[h]
def ug{A B C:HP}{h:Nat→Option LY}(x:sep (sep A B) C h):sep A (sep B C) h:=by
 obtain⟨nA,h3,hd,hu,⟨h1,h2,Sj,Z',ha,hb⟩,hc⟩:=x;refine⟨h1,fun b=>(h2 b).or (h3 b),fun b=>?_,fun b=>?_,ha,h2,h3,fun b=>?_,fun b=>rfl,hb,hc⟩
 ·rcases Sj b with h|h
  ·exact .inl h
  ·rcases hd b with g|g
   ·rw[Z' b,h] at g;left;simpa using g
   ·right;simp[h,g]
 ·rw[hu b,Z' b];simp[Option.or_assoc]
 ·rcases hd b with g|g
  ·rw[Z' b] at g;simp at g;exact .inl g.2
  ·exact .inr g
def Ah{A B C:HP}{h:Nat→Option LY}(x:sep A (sep B C) h):sep (sep A B) C h:=
 vQ (ug (vQ (ug (vQ x))))
def Ag{A B A' B':HP}{h:Nat→Option LY}(x:sep A B h)(ha:∀g,A g→A' g)(hb:∀g,B g→B' g):sep A' B' h:=by
 obtain⟨h1,h2,hd,hu,a,b⟩:=x;exact⟨h1,h2,hd,hu,ha _ a,hb _ b⟩
def J6{L M:LH}(p:L.Perm M):∀h,yT L h→yT M h:=by
 induction p with
 |nil=>exact fun h x=>x
 |cons A _ ih=>exact fun h x=>Ag x (fun _ a=>a) ih
 |swap A B l=>exact fun h x=>ug (Ag (Ah x) (fun _ y=>vQ y) fun _ y=>y)
 |trans _ _ WI OO=>exact fun h x=>OO h (WI h x)
def St.perm{W w:World}{L M:LH}(h:St W w L)(p:L.Perm M):St W w M:=
 let⟨hb,g,hs,hv⟩:=h;⟨hb,g,J6 p g hs,hv⟩
def o8{α:Type}:∀{L:List α} {k:Nat} {A:α},L[k]?=some A→L.Perm (A::L.eraseIdx k)
 |[],k,A,h=>by simp at h
 |B::L,0,A,h=>by simp at h;subst h;simp
 |B::L,k+1,A,h=>by
  simp only[adR] at h;exact((o8 h).cons B).trans (ad2.swap _ _ _)
def set_perm{α:Type}:∀{L:List α} {k:Nat} {A B:α},L[k]?=some A→(B::L.eraseIdx k).Perm (L.set k B)
 |[],k,A,B,h=>by simp at h
 |C::L,0,A,B,h=>by simp
 |C::L,k+1,A,B,h=>by
  simp only[adR] at h;exact(ad2.swap _ _ _).trans ((set_perm h).cons C)
def St.focus{W w:World}{L:LH}{k:Nat}{A:HP}(h:St W w L)(hk:L[k]?=some A):St W w (A::L.eraseIdx k):=h.perm (o8 hk)
def St.og{W w:World}{L:LH}{k:Nat}{A B:HP}(h:St W w (B::L.eraseIdx k))(hk:L[k]?=some A):St W w (L.set k B):=h.perm (set_perm hk)
def St.drop{W w:World}{A:HP}{L:LH}(h:St W w (A::L)):St W w L:=by
 obtain⟨hb,g,⟨h1,h2,hd,hu,ha,hl⟩,hv⟩:=h;refine⟨hb,h2,hl,fun b cs O6=>hv b cs ?_⟩;rw[hu b];rcases hd b with h|h
 ·simp[h,O6]
 ·rw[h] at O6;cases O6
def St.mono{W w:World}{A B:HP}{L:LH}(h:St W w (A::L))(O9:∀g,A g→B g):St W w (B::L):=
 let⟨hb,g,hs,hv⟩:=h;⟨hb,g,Ag hs O9 fun _ y=>y,hv⟩
def St.ex{α:Type}{W w:World}{f:α→HP}{L:LH}(h:St W w (Sq f::L)):∃x,St W w (f x::L):=by
 obtain⟨hb,g,⟨h1,h2,hd,hu,⟨x,hx⟩,hl⟩,hv⟩:=h;exact⟨x,hb,g,⟨h1,h2,hd,hu,hx,hl⟩,hv⟩
def St.ow{α:Type}{W w:World}{f:α→HP}{L:LH}(x:α)(h:St W w (f x::L)):St W w (Sq f::L):=h.mono fun _ hx=>⟨x,hx⟩
def St.and{W w:World}{p:Prop}{A:HP}{L:LH}(h:St W w (Lm p A::L)):p∧St W w (A::L):=by
 obtain⟨hb,g,⟨h1,h2,hd,hu,⟨hp,hx⟩,hl⟩,hv⟩:=h;exact⟨hp,hb,g,⟨h1,h2,hd,hu,hx,hl⟩,hv⟩
def St.and_intro{W w:World}{p:Prop}{A:HP}{L:LH}(hp:p)(h:St W w (A::L)):St W w (Lm p A::L):=h.mono fun _ hx=>⟨hp,hx⟩
def St.split{W w:World}{A B:HP}{L:LH}(h:St W w (sep A B::L)):St W w (A::B::L):=
 let⟨hb,g,hs,hv⟩:=h;⟨hb,g,ug hs,hv⟩
def St.join{W w:World}{A B:HP}{L:LH}(h:St W w (A::B::L)):St W w (sep A B::L):=
 let⟨hb,g,hs,hv⟩:=h;⟨hb,g,Ah hs,hv⟩
def St.below{W w:World}{L:LH}(h:St W w L):Below W.heap.size W w:=h.1
def vK{w:World}{b:Nat}{x:LY}(h:view w b=some x):b<w.heap.size:=by
 unfold view at h;cases hb:w.heap[b]? with
 |none=>simp[hb] at h
 |some x=>exact(Array.getElem?_eq_some_iff.1 hb).1
def JW{w:World}{b o:Nat}{cs:LV}(h:view w b=some (.cells cs)):w.cell? ⟨b,o,none⟩=cs[o]?∧(o<cs.length→w.frozen? ⟨b,o,none⟩=false)∧b<w.heap.size:=by
 have a8:=vK h;unfold view at h;cases hb:w.heap[b]? with
 |none=>simp[hb] at h
 |some x=>
  cases x<;>simp only[hb,reduceCtorEq,adU.injEq] at h
  rename_i c e fz;split at h
  ·rename_i Y6;simp only[adU.injEq,LY.cells.injEq] at h;subst h;refine⟨by simp[World.cell?,hb],fun ho=>?_,a8⟩;simp only[World.frozen?,hb];obtain⟨lo,hi⟩:=fz;simp at Y6 ho⊢;omega
  ·cases h
def L6{w:World}{b:Nat}{o:Obj}(h:view w b=some (.obj o)):w.heap[b]?=some o:=by
 unfold view at h;cases hb:w.heap[b]? with
 |none=>simp[hb] at h
 |some x=>
  cases x<;>simp only[hb,adU.injEq,LY.obj.injEq] at h<;>first|(subst h;rfl)|(split at h<;>cases h)
def St.cell{W w:World}{L:LH}{k b o:Nat}{cs:LV}(h:St W w L)(hk:L[k]?=some (pt b cs)):
 w.cell? ⟨b,o,none⟩=cs[o]?∧(o<cs.length→w.frozen? ⟨b,o,none⟩=false)∧b<w.heap.size∧W.heap.size≤b:=by
 obtain⟨hb,g,⟨h1,h2,hd,hu,ha,hl⟩,hv⟩:=h.focus hk;have hg:g b=some (.cells cs):=by rw[hu b];simp only[pt] at ha;simp[ha]
 obtain⟨h3,h4⟩:=hv b _ hg;obtain⟨h5,h6,h7⟩:=JW (o:=o) h4;exact⟨h5,h6,h7,h3⟩
def St.obj{W w:World}{L:LH}{k b:Nat}{o:Obj}(h:St W w L)(hk:L[k]?=some (ob b o)):w.heap[b]?=some o∧W.heap.size≤b:=by
 obtain⟨hb,g,⟨h1,h2,hd,hu,ha,hl⟩,hv⟩:=h.focus hk;have hg:g b=some (.obj o):=by rw[hu b];simp only[ob] at ha;simp[ha]
 obtain⟨h3,h4⟩:=hv b _ hg;exact⟨L6 h4,h3⟩
def vJ{w:World}{b o:Nat}{cs:LV}{v:Value}(h:view w b=some (.cells cs)):view (w.setCell ⟨b,o,none⟩ v) b=some (.cells (cs.set o v)):=by
 unfold view at h⊢;cases hb:w.heap[b]? with
 |none=>simp[hb] at h
 |some x=>
  cases x<;>simp only[hb,reduceCtorEq,adU.injEq] at h
  rename_i c e fz;have:(w.setCell ⟨b,o,none⟩ v).heap[b]?=some (.cells (c.setIfInBounds o v) e fz):=by
   simp[World.setCell,Array.getElem?_modify,hb]
  simp only[this,Array.size_setIfInBounds];split at h
  ·rename_i Y6;simp only[adU.injEq,LY.cells.injEq] at h;subst h;rw[if_pos Y6];simp
  ·cases h
def sg{w w':World}{b:Nat}(h:w'.heap[b]?=w.heap[b]?):view w' b=view w b:=by unfold view;rw[h]
def St.RJ{W w w':World}{L:LH}{k b:Nat}{x x':LY}(h:St W w L)(hk:L[k]?=some (fun h=>h b=some x))(hb:Below W.heap.size W w')
 (yr:view w' b=some x')(ho:∀j,j≠b→j<w.heap.size→w'.heap[j]?=w.heap[j]?):St W w' (L.set k (fun h=>h b=some x')):=by
 refine St.og (A:=fun h=>h b=some x) ?_ hk;obtain⟨_,g,⟨h1,h2,hd,hu,ha,hl⟩,hv⟩:=h.focus hk;have iM:W.heap.size≤b:=(hv b x (by rw[hu b];simp[ha])).1;refine⟨hb,fun j=>if j=b then some x' else g j,⟨fun j=>if j=b then some x' else h1 j,h2,fun j=>?_,fun j=>?_,by simp,hl⟩,fun j ds hj=>?_⟩
 ·by_cases e:j=b
  ·subst e;right;rcases hd j with h|h
   ·rw[h] at ha;cases ha
   ·exact h
  ·simpa [e] using hd j
 ·by_cases e:j=b
  ·subst e;simp
  ·simp[e,hu j]
 ·by_cases e:j=b
  ·subst e;simp at hj;subst hj;exact⟨iM,yr⟩
  ·simp[e] at hj;obtain⟨h3,h4⟩:=hv j ds hj;have a8:j<w.heap.size:=vK h4;exact⟨h3,by rw[sg (ho j e a8)];exact h4⟩
def St.aF{W w w':World}{L:LH}{k b:Nat}{cs rm:LV}(h:St W w L)(hk:L[k]?=some (pt b cs))(hb:Below W.heap.size W w')
 (yr:view w' b=some (.cells rm))(ho:∀j,j≠b→j<w.heap.size→w'.heap[j]?=w.heap[j]?):St W w' (L.set k (pt b rm)):=h.RJ hk hb yr ho
def St.set{W w:World}{L:LH}{k b o:Nat}{cs:LV}(v:Value)(h:St W w L)(hk:L[k]?=some (pt b cs)):St W (w.setCell ⟨b,o,none⟩ v) (L.set k (pt b (cs.set o v))):=by
 have hc:=h.cell (o:=o) hk;obtain⟨_,g,⟨h1,h2,hd,hu,ha,hl⟩,hv⟩:=h.focus hk;have hvw:=(hv b (.cells cs) (by rw[hu b];simp only[pt] at ha;simp[ha])).2;exact h.aF hk (h.1.setCell (p:=⟨b,o,none⟩) hc.2.2.2 v) (vJ hvw) (fun j hj _=>Below.heap_setCell w ⟨b,o,none⟩ v j hj)
def G5{w:World}{cs:LV}{t:TypeId}:view (w.alloc (.cells ⟨cs⟩ t)) w.heap.size=some (.cells cs):=by
 have:(w.alloc (.cells ⟨cs⟩ t)).heap[w.heap.size]?=some (.cells ⟨cs⟩ t):=by
  show(w.heap.push (.cells ⟨cs⟩ t))[w.heap.size]?=_;rw[Array.getElem?_push_size]
 unfold view;rw[this];simp
def St.Wv{W w:World}{L:LH}(h:St W w L)(o:Obj){x:LY}(hx:view (w.alloc o) w.heap.size=some x):St W (w.alloc o) ((fun h=>h w.heap.size=some x)::L):=by
 obtain⟨hb,g,hs,hv⟩:=h;have hle:=hb.size;have Xk:g w.heap.size=none:=by
  cases hg:g w.heap.size with
  |none=>rfl
  |some ds=>exact absurd (vK (hv _ _ hg).2) (by omega)
 refine⟨hb.alloc hle _,fun j=>if j=w.heap.size then some x else g j,⟨fun j=>if j=w.heap.size then some x else none,g,fun j=>?_,fun j=>?_,by simp,hs⟩,fun j ds hj=>?_⟩
 ·by_cases e:j=w.heap.size
  ·subst e;exact .inr Xk
  ·simp[e]
 ·by_cases e:j=w.heap.size
  ·subst e;simp
  ·simp[e]
 ·by_cases e:j=w.heap.size
  ·subst e;simp at hj;subst hj;exact⟨hle,hx⟩
  ·simp[e] at hj;obtain⟨h3,h4⟩:=hv j ds hj;exact⟨h3,by rw[sg (Below.heap_alloc w _ j (vK h4))];exact h4⟩
def St.new{W w:World}{L:LH}(h:St W w L)(cs:LV)(t:TypeId):St W (w.alloc (.cells ⟨cs⟩ t)) (pt w.heap.size cs::L):=h.Wv _ G5
def St.drew{W w:World}{L:LH}(h:St W w L):St W w.drew L:=
 let⟨hb,g,hs,hv⟩:=h;⟨hb.drew,g,hs,hv⟩
def St.pC{W w w':World}{L:LH}(h:St W w L)(hb:Below w.heap.size w w'):St W w' L:=by
 obtain⟨hB,g,hs,hv⟩:=h;refine⟨hB.trans (hb.mono hB.size),g,hs,fun b cs hc=>?_⟩;obtain⟨h1,h2⟩:=hv b cs hc;exact⟨h1,by rw[sg (hb.block b (vK h2))];exact h2⟩
def St.start(W:World):St W W []:=⟨Below.refl _ _,fun _=>none,trivial,fun b cs h=>by cases h⟩
section
variable {w:World}
def RB(k:IntKind)(K:Int→WK)(n:Int)(w:World):xI k K (.int k n) w=K n w:=by
 simp[xI]
def L1(K:Bool→WK)(b:Bool)(w:World):xB K (.bool b) w=K b w:=by simp[xB]
def L0(K:BA→WK)(s:BA)(w:World):xS K (.string s) w=K s w:=by simp[xS]
def Rz(K:OA→WK)(p:OA)(w:World):xP K (.p p) w=K p w:=by simp[xP]
def RA(K:OA→Nat→Nat→WK)(b:OA)(n c:Nat)(w:World):xL K (.l b n c) w=K b n c w:=
 propext ⟨fun⟨_,_,_,h,hk⟩=>by cases h;exact hk,fun h=>⟨_,_,_,rfl,h⟩⟩
def sV(n:Nat)(K:LV→WK)(cs:LV)(w:World):xA n K (.agg ⟨cs⟩) w=(cs.length=n∧K cs w):=by
 simp[xA]
def RE(K:WK)(w:World):x0 K (.tuple ⟨[]⟩) w=K w:=by simp[x0]
def RD(K:Value→Value→WK)(a b:Value)(w:World):x2 K (.tuple ⟨[a,b]⟩) w=K a b w:=
 propext ⟨fun⟨_,_,h,hk⟩=>by cases h;exact hk,fun h=>⟨_,_,rfl,h⟩⟩
def RC(K:Value→Value→Value→WK)(a b c:Value)(w:World):x3 K (.tuple ⟨[a,b,c]⟩) w=K a b c w:=
 propext ⟨fun⟨_,_,_,h,hk⟩=>by cases h;exact hk,fun h=>⟨_,_,_,rfl,h⟩⟩
def jk(X Y:WK):br true X Y=X:=rfl
def cA(X Y:WK):br false X Y=Y:=rfl
def zq(a:Addr)(K:Addr→WK):nn (some a) K=K a:=rfl
def US(p:Prop)(K:WK)(w:World):bl p K w=(p∧K w):=rfl
def ft(b o n:Nat):(⟨b,o,none⟩:Addr).add n=⟨b,o+n,none⟩:=by
 unfold Addr.add;split
 ·rename_i h;subst h;rfl
 ·rfl
def pO{b:Bool}{X Y:WK}(h1:b=true→X w)(h2:b=false→Y w):br b X Y w:=by
 cases b with
 |true=>exact h1 rfl
 |false=>exact h2 rfl
def dJ{p:Prop}[Decidable p]{X Y:WK}(h1:p→X w)(h2: ¬p→Y w):br (decide p) X Y w:=
 pO (fun h=>h1 (of_decide_eq_true h)) (fun h=>h2 (of_decide_eq_false h))
def Gs{x y:Int}{X Y:WK}(h1:x=y→X w)(h2:x≠y→Y w):br (x==y) X Y w:=
 pO (fun h=>h1 (by simpa using h)) (fun h=>h2 (by simpa using h))
def qt{x y:Int}{X Y:WK}(h1:x≠y→X w)(h2:x=y→Y w):br (x !=y) X Y w:=
 pO (fun h=>h1 (by simpa using h)) (fun h=>h2 (by simpa using h))
end
def nz:(∀(a:Addr)(K:Addr→WK),nn (some a) K=K a)∧(∀b o n:Nat,(⟨b,o,none⟩:Addr).add n=⟨b,o+n,none⟩)∧(∀n:Nat,0+n=n)∧(∀n:Nat,n+0=n)∧
 (∀(α:Type)(a:α),(some a).isNone=false)∧(∀α:Type,(none:Option α).isNone=true)∧(∀X Y:WK,br true X Y=X)∧(∀X Y:WK,br false X Y=Y)∧((!true)=false)∧((!false)=true)∧
 (∀(k:IntKind)(K:Int→WK)(n:Int)(w:World),xI k K (.int k n) w=K n w)∧(∀(K:Bool→WK)(b:Bool)(w:World),xB K (.bool b) w=K b w)∧(∀(K:BA→WK)(s:BA)(w:World),xS K (.string s) w=K s w)∧
 (∀(K:OA→WK)(p:OA)(w:World),xP K (.p p) w=K p w)∧(∀(K:OA→Nat→Nat→WK)(b:OA)(n c:Nat)(w:World),xL K (.l b n c) w=K b n c w)∧
 (∀(K:WK)(w:World),x0 K (.tuple ⟨[]⟩) w=K w)∧(∀(K:Value→Value→WK)(a b:Value)(w:World),x2 K (.tuple ⟨[a,b]⟩) w=K a b w)∧(∀(K:Value→Value→Value→WK)(a b c:Value)(w:World),x3 K (.tuple ⟨[a,b,c]⟩) w=K a b c w)∧
 (∀(p:Prop)(K:WK)(w:World),bl p K w=(p∧K w))∧(∀p:Prop,(True∧p)=p)∧(∀p:Prop,(p∧True)=p)∧
 (∀(α:Type 1)(a b:α)(l:List α),(a::l).set 0 b=b::l)∧(∀(α:Type 1)(a b:α)(l:List α)(n:Nat),(a::l).set (n+1) b=a::l.set n b)∧(∀(α:Type 1)(a:α)(l:List α),(a::l).eraseIdx 0=l)∧(∀(α:Type 1)(a:α)(l:List α)(n:Nat),(a::l).eraseIdx (n+1)=a::l.eraseIdx n)∧
 (∀(α:Type)(a b:α)(l:List α),(a::l).set 0 b=b::l)∧(∀(α:Type)(a b:α)(l:List α)(n:Nat),(a::l).set (n+1) b=a::l.set n b)∧(∀(α:Type)(a:α)(l:List α),(a::l).eraseIdx 0=l)∧(∀(α:Type)(a:α)(l:List α)(n:Nat),(a::l).eraseIdx (n+1)=a::l.eraseIdx n):=
 ⟨zq,ft,adE,aev,fun _ _=>rfl,fun _=>rfl,jk,cA,rfl,rfl,RB,L1,L0,Rz,RA,RE,RD,RC,US,fun _=>true_and _,fun _=>and_true _,fun _ _ _ _=>rfl,fun _ _ _ _ _=>rfl,fun _ _ _=>rfl,fun _ _ _ _=>rfl,fun _ _ _ _=>rfl,fun _ _ _ _ _=>rfl,fun _ _ _=>rfl,fun _ _ _ _=>rfl⟩
def bz:(∀(p:Prop) [Decidable p],(decide p=true)=p)∧(∀(p:Prop) [Decidable p],(decide p=false)= ¬p)∧(∀b:Bool,((!b)=true)=(b=false))∧(∀b:Bool,((!b)=false)=(b=true))∧((true=false)=False)∧((false=true)=False)∧
 (∀(a b:Int),((a==b)=true)=(a=b))∧(∀(a b:Int),((a==b)=false)= ¬a=b)∧(∀(a b:Int),((a !=b)=true)= ¬a=b)∧(∀(a b:Int),((a !=b)=false)=(a=b))∧(∀(α:Type)(a b:α),(a≠b)= ¬a=b)∧(∀p:Prop,(¬ ¬p)=p)∧((!true)=false)∧((!false)=true):=by
 refine⟨fun p _=>by simp,fun p _=>by simp,fun b=>by cases b<;>simp,fun b=>by cases b<;>simp,by simp,by simp,fun a b=>by simp,fun a b=>by simp,fun a b=>by simp,fun a b=>by simp,fun _ a b=>rfl,fun p=>by simp,rfl,rfl⟩
section
variable {W w:World} {L:LH} {k:Nat}
def R3{a:Addr}{v:Value}{K:VK}(h:w.cell? a=some v)(hk:K v w):ld a K w:=⟨v,h,hk⟩
def bR{b o:Nat}{cs:LV}{v:Value}{K:VK}(h:St W w L)(hk:L[k]?=some (pt b cs))(hv:cs[o]?=some v)(hK:K v w):ld ⟨b,o,none⟩ K w:=
 ⟨v,by rw[(h.cell hk).1,hv],hK⟩
def mL{b o:Nat}{cs:LV}{v:Value}{K:WK}(h:St W w L)(hk:L[k]?=some (pt b cs))(ho:o<cs.length)(h1:v.oneCell'=true)
 (hK:∀w',St W w' (L.set k (pt b (cs.set o v)))→K w'):st ⟨b,o,none⟩ v K w:=by
 obtain⟨h2,h3,_⟩:=h.cell (o:=o) hk;exact⟨h1,⟨cs[o],by rw[h2];simp[ho]⟩,h3 ho,hK _ (h.set v hk)⟩
def ic{cs:LV}{K:Nat→WK}(h:St W w L)(hK:∀r w',St W w' (pt r cs::L)→K r w'):mk cs K w:=fun t=>hK _ _ (h.new cs t)
def kA{K:WK}(h:St W w L)(hK:∀w',St W w' L→K w'):tick K w:=hK _ h.drew
def rX{b o:Nat}{cs xs:LV}(h:St W w L)(hk:L[k]?=some (pt b cs))(hx:∀j v,xs[j]?=some v→cs[o+j]?=some v):ta w ⟨b,o,none⟩ xs:=fun j v hj=>by
 rw[ft,(h.cell hk).1];exact hx j v hj
def Jh{b o:Nat}{cs xs:LV}{K:WK}(h:St W w L)(hk:L[k]?=some (pt b cs))(hx:∀j v,xs[j]?=some v→cs[o+j]?=some v)(hK:K w):kp ⟨b,o,none⟩ xs K w:=
 ⟨rX h hk hx,hK⟩
def iV{b o:Nat}{cs:LV}{v:Value}{K:WK}(h:St W w L)(hk:L[k]?=some (pt b cs))(hx:cs[o]?=some v)(hK:K w):kp ⟨b,o,none⟩ [v] K w:=
 Jh h hk (fun j u hj=>by
  cases j with
  |zero=>simp at hj;subst hj;exact hx
  |succ j=>simp at hj) hK
def iG{b o n:Nat}{cs xs:LV}{K:LV→WK}(h:St W w L)(hk:L[k]?=some (pt b cs))(hl:xs.length=n)(hx:∀j v,xs[j]?=some v→cs[o+j]?=some v)(hK:K xs w):aj ⟨b,o,none⟩ n K w:=
 ⟨xs,hl,rX h hk hx,hK⟩
def over(cs:LV)(o:Nat)(xs:LV):LV:=cs.take o++xs++cs.drop (o+xs.length)
def Fo{cs:LV}{o:Nat}{xs:LV}(h:o+xs.length≤cs.length):(over cs o xs).length=cs.length:=by
 simp[over];omega
def wc{cs:LV}{o:Nat}{xs:LV}(h:o+xs.length≤cs.length)(j:Nat):(over cs o xs)[j]?=if j<o then cs[j]? else if j<o+xs.length then xs[j-o]? else cs[j]?:=by
 unfold over;rw[adI];by_cases h1:j<o
 ·rw[if_pos h1,adY (by simp;omega),List.getElem?_take_of_lt h1]
 ·rw[if_neg h1,aea (by simp;omega)];have e:(cs.take o).length=o:=by simp;omega
  rw[e];by_cases h2:j<o+xs.length
  ·rw[if_pos h2,adY (by omega)]
  ·rw[if_neg h2,aea (by omega),aeQ]
   congr 1;omega
def MT{cs:LV}{o:Nat}{v:Value}{xs:LV}(h:o+(xs.length+1)≤cs.length):over (cs.set o v) (o+1) xs=over cs o (v::xs):=by
 apply aeV;intro j;rw[wc (by simp;omega),wc (by simpa using h)];by_cases h1:j<o
 ·rw[if_pos (by omega),if_pos h1,List.getElem?_set_ne (by omega)]
 ·by_cases h2:j=o
  ·subst h2;rw[if_pos (by omega),if_neg (by omega),if_pos (by simp)];have:j<cs.length:=by omega
   simp[this]
  ·rw[if_neg (by omega),if_neg h1];by_cases h3:j<o+(xs.length+1)
   ·rw[if_pos (by omega),if_pos (by simpa using h3)];obtain⟨m,rfl⟩:∃m,j=o+1+m:=⟨j-(o+1),by omega⟩;rw[show o+1+m-o=m+1 from by omega,show o+1+m-(o+1)=m from by omega]
    rfl
   ·rw[if_neg (by omega),if_neg (by simpa using h3),List.getElem?_set_ne (by omega)]
def kE{α:Type}:∀{L:List α} {k:Nat} {A:α},L[k]?=some A→L.set k A=L
 |[],k,A,h=>by simp at h
 |B::L,0,A,h=>by simp at h;subst h;rfl
 |B::L,k+1,A,h=>by simp only[adR] at h;simp only[aeP,kE h]
def St.u5:∀(xs:LV) {w:World} {L:LH} {b:Nat}(o i:Nat) {cs:LV},St W w L→L[k]?=some (pt b cs)→o+i+xs.length≤cs.length→(∀v∈xs,v.oneCell'=true)→
 sU w ⟨b,o,none⟩ i xs∧St W (Den.u5 w ⟨b,o,none⟩ i xs) (L.set k (pt b (over cs (o+i) xs)))
 |[],w,L,b,o,i,cs,h,hk,hl,h1=>by
  refine⟨⟨by simp,by simp⟩,?_⟩;have:over cs (o+i) []=cs:=by simp[over]
  rw[this,kE hk];exact h
 |v::xs,w,L,b,o,i,cs,h,hk,hl,h1=>by
  have xD:(L.set k (pt b (cs.set (o+i) v)))[k]?=some (pt b (cs.set (o+i) v)):=by
   have:=(adC.1 hk).1;simp[this]
  have h2:=h.set (o:=o+i) v hk;obtain⟨hc,hs⟩:=St.u5 xs o (i+1) h2 xD (by simp at hl⊢;omega) (fun u hu=>h1 u (by simp[hu]));refine⟨⟨h1,fun j hj=>?_⟩,?_⟩
  ·rw[ft];obtain⟨g1,g2,_⟩:=h.cell (o:=o+(i+j)) hk;simp only[adW] at hl hj;have a8:o+(i+j)<cs.length:=by omega
   exact⟨⟨cs[o+(i+j)],by rw[g1];simp[a8]⟩,g2 a8⟩
  ·simp only[Den.u5];rw[ft,aeO] at *;have e:=MT (cs:=cs) (o:=o+i) (v:=v) (xs:=xs) (by simp at hl;omega);rw[show o+(i+1)=o+i+1 from by omega,e] at hs;exact hs
def iU{b o:Nat}{cs xs:LV}{K:WK}(h:St W w L)(hk:L[k]?=some (pt b cs))(hl:o+xs.length≤cs.length)(h1:∀v∈xs,v.oneCell'=true)
 (hK:∀w',St W w' (L.set k (pt b (over cs o xs)))→K w'):iN ⟨b,o,none⟩ xs K w:=by
 obtain⟨hc,hs⟩:=St.u5 xs o 0 h hk (by omega) h1;exact⟨hc,hK _ hs⟩
end
def own(b:OA)(n c e:Nat)(xs:LV):HP:=fun h=>
 xs.length=n* e∧((b=none∧n=0∧c=0)∨∃r sp,b=some ⟨r,0,none⟩∧n≤c∧sp.length=(c-n)* e∧pt r (xs++sp) h)
section
variable {W w:World} {L:LH} {k:Nat} {b:OA} {n c e:Nat} {xs:LV}
def St.push{A:HP}(h:St W w L)(ha:A fun _=>none):St W w (A::L):=by
 obtain⟨hb,g,hs,hv⟩:=h;exact⟨hb,g,⟨fun _=>none,g,fun b=>.inl rfl,fun b=>by simp,ha,hs⟩,hv⟩
def o5(e:Nat):own none 0 0 e [] fun _=>none:=⟨by simp,.inl ⟨rfl,rfl,rfl⟩⟩
def St.mz(h:St W w L)(hk:L[k]?=some (own b n c e xs)):xs.length=n* e∧
 ((b=none∧n=0∧c=0)∨∃r sp,b=some ⟨r,0,none⟩∧n≤c∧sp.length=(c-n)* e∧St W w (L.set k (pt r (xs++sp)))):=by
 obtain⟨hb,g,⟨h1,h2,hd,hu,⟨hl,ha⟩,hs⟩,hv⟩:=h.focus hk;refine⟨hl,ha.imp id ?_⟩;rintro⟨r,sp,nW,qM,yt,hp⟩;exact⟨r,sp,nW,qM,yt,St.og (A:=own b n c e xs) ⟨hb,g,⟨h1,h2,hd,hu,hp,hs⟩,hv⟩ hk⟩
def iF{α:Type}{L:List α}{k:Nat}{A B:α}(hk:L[k]?=some A):(L.set k B)[k]?=some B:=by
 have:=(adC.1 hk).1;simp[this]
def St.xn{r:Nat}{sp:LV}(hk:k<L.length)(hl:xs.length=n* e)(qM:n≤c)(yt:sp.length=(c-n)* e)(h:St W w (L.set k (pt r (xs++sp)))):
 St W w (L.set k (own (some ⟨r,0,none⟩) n c e xs)):=by
 have hg:(L.set k (pt r (xs++sp)))[k]?=some (pt r (xs++sp)):=by simp[hk]
 have h2:=(h.focus hg).mono (B:=own (some ⟨r,0,none⟩) n c e xs) fun g hp=>⟨hl,.inr ⟨r,sp,rfl,qM,yt,hp⟩⟩;have:=h2.og hg;rwa[aeO] at this
def St.CD{r:Nat}(h:St W w L)(hk:L[k]?=some (own (some ⟨r,0,none⟩) n c e xs))(o:Nat)(ho:o<xs.length):
 w.cell? ⟨r,o,none⟩=xs[o]?∧w.frozen? ⟨r,o,none⟩=false:=by
 obtain⟨hl,h0|⟨r',sp,hb,qM,yt,hs⟩⟩:=h.mz hk
 ·cases h0.1
 ·cases hb
  obtain⟨h1,h2,_⟩:=hs.cell (o:=o) (iF hk);exact⟨by rw[h1,adY ho],h2 (by simp;omega)⟩
def sA{i:Int}{K:Addr→WK}(h:St W w L)(hk:L[k]?=some (own b n c e xs))(hi:0≤i∧i<n)
 (hK:∀r,b=some ⟨r,0,none⟩→K ⟨r,i.toNat* e,none⟩ w):iO b n i e K w:=by
 obtain⟨hl,h0|⟨r,sp,hb,qM,yt,hs⟩⟩:=h.mz hk
 ·omega
 ·refine⟨_,hb,hi,?_⟩;rw[ft,adE];exact hK r hb
def xx{r o:Nat}{v:Value}{K:VK}(h:St W w L)(hk:L[k]?=some (own (some ⟨r,0,none⟩) n c e xs))(hv:xs[o]?=some v)(hK:K v w):ld ⟨r,o,none⟩ K w:=
 ⟨v,by rw[(h.CD hk o (adC.1 hv).1).1,hv],hK⟩
def xZ{r o:Nat}{ys:LV}(h:St W w L)(hk:L[k]?=some (own (some ⟨r,0,none⟩) n c e xs))(hx:∀j v,ys[j]?=some v→xs[o+j]?=some v):ta w ⟨r,o,none⟩ ys:=fun j v hj=>by
 have:=hx j v hj;rw[ft,(h.CD hk _ (adC.1 this).1).1,this]
def DO{r o m:Nat}{ys:LV}{K:LV→WK}(h:St W w L)(hk:L[k]?=some (own (some ⟨r,0,none⟩) n c e xs))(hl:ys.length=m)(hx:∀j v,ys[j]?=some v→xs[o+j]?=some v)(hK:K ys w):aj ⟨r,o,none⟩ m K w:=
 ⟨ys,hl,xZ h hk hx,hK⟩
def Px{r o:Nat}{ys:LV}{K:WK}(h:St W w L)(hk:L[k]?=some (own (some ⟨r,0,none⟩) n c e xs))(ho:o+ys.length≤xs.length)(h1:∀v∈ys,v.oneCell'=true)
 (hK:∀w',St W w' (L.set k (own (some ⟨r,0,none⟩) n c e (over xs o ys)))→K w'):iN ⟨r,o,none⟩ ys K w:=by
 obtain⟨hl,h0|⟨r',sp,hb,qM,yt,hs⟩⟩:=h.mz hk
 ·cases h0.1
 ·cases hb
  refine iU hs (iF hk) (by simp;omega) h1 fun w' LD=>hK w' ?_;rw[aeO] at LD;have e1:over (xs++sp) o ys=over xs o ys++sp:=by
   unfold over;rw[List.take_append_of_le_length (by omega),List.drop_append_of_le_length (by omega)];simp
  rw[e1] at LD;exact St.xn ((adC.1 hk).1) (by rw[Fo ho];exact hl) qM yt LD
def Dw{r o:Nat}{v:Value}{K:WK}(h:St W w L)(hk:L[k]?=some (own (some ⟨r,0,none⟩) n c e xs))(ho:o<xs.length)(h1:v.oneCell'=true)
 (hK:∀w',St W w' (L.set k (own (some ⟨r,0,none⟩) n c e (xs.set o v)))→K w'):st ⟨r,o,none⟩ v K w:=by
 obtain⟨hl,h0|⟨r',sp,hb,qM,yt,hs⟩⟩:=h.mz hk
 ·cases h0.1
 ·cases hb
  refine mL hs (iF hk) (by simp;omega) h1 fun w' LD=>hK w' ?_;rw[aeO,List.set_append_left _ _ ho] at LD;exact St.xn ((adC.1 hk).1) (by simpa using hl) qM yt LD
def BB{r o m:Nat}{cs ys:LV}{k':Nat}(h:St W w L)(hk:L[k']?=some (pt r cs))(hl:ys.length=m* e)(hx:∀j v,ys[j]?=some v→cs[o+j]?=some v):Src w m e (some ⟨r,o,none⟩) ys:=
 ⟨hl,fun a ha=>by cases ha;exact rX h hk hx⟩
def JP{m c':Nat}{ys:LV}{b':OA}{k':Nat}(h:St W w L)(hk:L[k']?=some (own b' m c' e ys)):Src w m e b' ys∧(b'=none→m=0):=by
 obtain⟨hl,h0|⟨r',sp,hb,qM,yt,hs⟩⟩:=h.mz hk
 ·obtain⟨rfl,rfl,rfl⟩:=h0;exact⟨⟨hl,fun a ha=>by cases ha⟩,fun _=>rfl⟩
 ·subst hb;refine⟨⟨hl,fun a ha=>?_⟩,fun hn=>by cases hn⟩;cases ha
  exact rX hs (iF hk) fun j v hj=>by
   rw[adE,adY (adC.1 hj).1];exact hj
def lu(z:LV)(m:Nat):(Builtin.zeroCells ⟨z⟩ m).toList.length=m* z.length:=by
 simp[Builtin.zeroCells]
def Hv(c n m e:Nat):(c-n)* e-m* e=(c-(n+m))* e:=by
 rw[←Nat.sub_mul];congr 1;omega
def GA{bytes m:Nat}{zero ys:LV}{K:OA→Nat→Nat→WK}(h:St W w L)(hk:L[k]?=some (own b n c e xs))(hy:ys.length=m* e)(hz:zero.length=e)
 (hbound:(n+m)* bytes≤140737488355328)(Qu:n+m≤9223372036854775807)(h1:∀v∈ys,v.oneCell'=true)
 (hK:∀b' c' w',St W w' (L.set k (own b' (n+m) c' e (xs++ys)))→K b' (n+m) c' w'):Rj e bytes zero b n c m ys K w:=by
 have T':=(adC.1 hk).1;obtain⟨hl,h0⟩:=h.mz hk;refine⟨fun hle=>⟨fun a ha=>?_,fun hb=>?_⟩,fun a8=>⟨hbound,by omega,xs,?_,?_,fun c' t F1=>?_⟩⟩
 ·rcases h0 with h0|⟨r,sp,hb,qM,yt,hs⟩
  ·rw[h0.1] at ha;cases ha
  ·subst hb;cases ha
   rw[ft,adE];have yw:n* e+0+ys.length≤(xs++sp).length:=by
    rw[adD,hl,yt,hy,aev,←aeU,←aeU];exact aem e (by omega)
   obtain⟨hc,gN⟩:=St.u5 ys (n* e) 0 hs (iF hk) yw h1;refine⟨hc,hK _ _ _ ?_⟩;rw[aeO,aev] at gN;have e1:over (xs++sp) (n* e) ys=(xs++ys)++sp.drop ys.length:=by
    unfold over;rw[←hl,List.take_left' rfl,List.drop_append,aeh (by omega)];simp
   rw[e1] at gN;refine St.xn T' (by rw[adD,hl,hy,aeU]) hle ?_ gN;rw[adM,yt,hy];exact Hv c n m e
 ·rcases h0 with h0|⟨r,sp,nW,qM,yt,hs⟩
  ·obtain⟨rfl,rfl,rfl⟩:=h0;have hm:m=0:=by omega
   subst hm;have Z0:ys=[]:=List.eq_nil_of_length_eq_zero (by simpa using hy);have Z1:xs=[]:=List.eq_nil_of_length_eq_zero (by simpa using hl);subst Z0 Z1;refine hK _ _ _ ?_;rw[adV,kE hk];exact h
  ·rw[nW] at hb;cases hb
 ·rcases h0 with h0|⟨r,sp,hb,qM,yt,hs⟩
  ·obtain⟨rfl,rfl,rfl⟩:=h0;exact⟨hl,fun a ha=>by cases ha⟩
  ·subst hb;refine⟨hl,fun a ha=>?_⟩;cases ha
   exact rX hs (iF hk) fun j v hj=>by
    rw[adE,adY (adC.1 hj).1];exact hj
 ·intro hb;rcases h0 with h0|⟨r,sp,nW,_⟩
  ·exact h0.2.1
  ·rw[nW] at hb;cases hb
 ·refine hK _ _ _ ?_;have Qt:=(h.focus hk).drop.drew.new ((xs++ys)++(Builtin.zeroCells ⟨zero⟩ (c'-(n+m))).toList) t;rw[World.size_drew] at Qt;have aaV:((xs++ys).toArray++Builtin.zeroCells ⟨zero⟩ (c'-(n+m)):Array Value)=⟨(xs++ys)++(Builtin.zeroCells ⟨zero⟩ (c'-(n+m))).toList⟩:=by
   apply afc;simp
  rw[aaV];refine St.og (A:=own b n c e xs) ?_ hk;exact Qt.mono fun g hp=>⟨by rw[adD,hl,hy,aeU],.inr ⟨_,_,rfl,F1,by rw[lu,hz],hp⟩⟩
def qb{bytes m:Nat}{zero ys:LV}{b':OA}{K:OA→Nat→Nat→WK}(h:St W w L)(hk:L[k]?=some (own b n c e xs))(vh:Src w m e b' ys)(nW:b'=none→m=0)(hz:zero.length=e)
 (hbound:(n+m)* bytes≤140737488355328)(Qu:n+m≤9223372036854775807)(h1:∀v∈ys,v.oneCell'=true)
 (hK:∀b' c' w',St W w' (L.set k (own b' (n+m) c' e (xs++ys)))→K b' (n+m) c' w'):gj e bytes zero b n c b' m K w:=
 ⟨ys,vh,nW,GA h hk vh.1 hz hbound Qu h1 hK⟩
def Du(s:BA):∀v∈strCells s,v.oneCell'=true:=by
 intro v hv;simp only[strCells,aek] at hv;obtain⟨x,_,rfl⟩:=hv
 rfl
def strCells_length(s:BA):(strCells s).length=s.size:=by simp[strCells]
def Bw{s:BA}{K:OA→Nat→Nat→WK}{xs:LV}(h:St W w L)(hk:L[k]?=some (own b n c 1 xs))(hbound:n+s.size≤140737488355328)
 (hK:∀b' c' w',St W w' (L.set k (own b' (n+s.size) c' 1 (xs++strCells s)))→K b' (n+s.size) c' w'):Bx b n c s K w:=
 GA h hk (by rw[strCells_length];omega) rfl (by omega) (by omega) (Du s) hK
def M8{bytes:Nat}{zero:LV}{len cap:Int}{K:OA→Nat→Nat→WK}(h:St W w L)(h0:0≤len∧len≤cap∧cap≤9223372036854775807∧cap* bytes≤281474976710656)
 (hK:∀r w',St W w' (own (some ⟨r,0,none⟩) len.toNat cap.toNat zero.length (Builtin.zeroCells ⟨zero⟩ len.toNat).toList::L)→K (some ⟨r,0,none⟩) len.toNat cap.toNat w'):Fx bytes zero len cap K w:=by
 refine⟨h0,fun t=>hK _ _ ?_⟩;have Qt:=h.new (Builtin.zeroCells ⟨zero⟩ cap.toNat).toList t;refine St.mono Qt fun g hp=>⟨lu _ _,.inr ⟨_,(Builtin.zeroCells ⟨zero⟩ (cap.toNat-len.toNat)).toList,rfl,by omega,lu _ _,?_⟩⟩;have qk:(Builtin.zeroCells ⟨zero⟩ cap.toNat).toList=(Builtin.zeroCells ⟨zero⟩ len.toNat).toList++(Builtin.zeroCells ⟨zero⟩ (cap.toNat-len.toNat)).toList:=by
  have key:∀p q,(Builtin.zeroCells ⟨zero⟩ (p+q)).toList=(Builtin.zeroCells ⟨zero⟩ p).toList++(Builtin.zeroCells ⟨zero⟩ q).toList:=by
   intro p q;simp only[Builtin.zeroCells,Array.toList_map,Array.toList_range];rw[aeU,List.range_add,ad8,afb]
   congr 1
   apply aeR;intro j _;simp only[Function.comp]
   congr 1
   rw[Nat.add_comm,Nat.add_mul_mod_self_right]
  rw[←key];congr 2;omega
 rw[←qk];exact hp
end
end Go.Sep
namespace Go.bI
open Go.Den
def kv(n:Nat):BA:=⟨(adQ n 0).toArray⟩
def qe(n:Nat):(kv n).size=n:=by simp[kv,ByteArray.size]
structure aA where
 safe:List BA
 later:List (Int×BA)
 ops:Int
 arm:Int
namespace aA
def new(n:Int):aA:=⟨adQ (min2 (max2 n 0) 4096).toNat (kv 128),[],0,0⟩
def is(D:aA)(i:Int):Prop:=0≤i∧i<D.safe.length
instance(D:aA)(i:Int):Decidable (D.is i):=by unfold is;infer_instance
def tick(D:aA):aA:={D with ops:=adx.wrap (D.ops+1),arm:=if D.arm=0 then 0 else adx.wrap (D.arm-1)}
def qP(D:aA):Bool:= !(D.arm==0)&&(adx.wrap (D.arm-1)==0)
def last(l:List (Int×BA))(i:Int):Option BA:=(l.reverse.find? fun p=>p.1==i).map (·.2)
def now(D:aA)(i:Int):BA:=(last D.later i).getD (D.safe.getD i.toNat .empty)
def read(D:aA)(i:Int):BA×Int:=if D.is i then(D.now i,0) else(.empty,1)
def pad(s:BA):BA:=s++kv (128-s.size)
def write(D:aA)(i:Int)(s:BA):aA×Int:=
 if ¬D.is i∨128<s.size then(D,1) else if D.qP then(D.tick,8) else({D.tick with later:=D.later++[(i,pad s)]},0)
def put(safe:List BA)(p:Int×BA):List BA:=safe.set p.1.toNat p.2
def sync(D:aA):aA×Int:=if D.qP then(D.tick,8) else({D.tick with safe:=D.later.foldl put D.safe,later:=[]},0)
def bit(mask:Int)(k:Int):Bool:=bG .u64 .and (shr .u64 mask (min2 k 63)) 1==1
def pR(mask torn c:Int)(safe:List BA)(k:Nat)(p:Int×BA):List BA:=
 if(k:Int)=torn then safe.set p.1.toNat (p.2.extract 0 c.toNat++(safe.getD p.1.toNat .empty).extract c.toNat (safe.getD p.1.toNat .empty).size)
 else if bit mask k then safe.set p.1.toNat p.2 else safe
def rU(mask torn c:Int):Nat→List (Int×BA)→List BA→List BA
 |_,[],safe=>safe
 |k,p::r,safe=>rU mask torn c (k+1) r (pR mask torn c safe k p)
def ie(D:aA)(mask torn cut:Int):aA:=
 {D with safe:=rU mask torn (min2 (max2 cut 0) 128) 0 D.later D.safe,later:=[],arm:=0}
structure Ok(D:aA):Prop where
 safe:∀s∈D.safe,s.size=128
 later:∀p∈D.later,p.2.size=128∧0≤p.1∧p.1<D.safe.length
 mC:D.safe.length≤4096
 less:D.later.length<1099511627776
end aA
end Go.bI
namespace Go.Prog
open Go.Den Go.RowKit
def Am(l:List UInt8):Nat→List UInt8
 |0=>[]
 |n+1=>l++Am l n
def strings_Repeat(s:BA)(n:Int)(K:VK):WK:=fun w=>
 (0≤n∧s.size* n.toNat≤140737488355328∧n≤9223372036854775807)∧∀w',Below w.heap.size w w'→K (.string ⟨(Am s.data.toList n.toNat).toArray⟩) w'
def strings_Repeat.u:WP:=fun args K=>match args with|[.string s,.int .i64 n]=>strings_Repeat s n K|_=>no
end Go.Prog
namespace Go.Prog
open Go.Den
abbrev LI:=List Value→World→Prop
abbrev LM:=List Value→World→Nat
abbrev lp(a:LV)(B:LI→LM→Prop):WK:=fun w=>∃I μ,I a w∧B I μ
abbrev ct(I:LI)(μ:LM)(b a:LV)(w:World):WK:=fun v=>I b v∧μ b v<μ a w
abbrev aN(n:Nat)(a:Addr)(cs:LV)(X:WK):WK:=bl (cs.length=n) (iN a cs X)
abbrev EA(n:Nat)(cs:LV)(F:Nat→WK):WK:=bl (cs.length=n∧True) (mk (cs++[]) F)
abbrev lI(a:Addr)(K:Int→WK):WK:=ld a (xI .i64 K)
abbrev lU(a:Addr)(K:Int→WK):WK:=ld a (xI .u64 K)
abbrev lB(a:Addr)(K:Int→WK):WK:=ld a (xI .u8 K)
abbrev lP(a:Addr)(K:OA→WK):WK:=ld a (xP K)
abbrev lL(a:Addr)(K:OA→Nat→Nat→WK):WK:=ld a (xL K)
abbrev lT(a:Addr)(K:Bool→WK):WK:=ld a (xB K)
abbrev lS(a:Addr)(K:ByteArray→WK):WK:=ld a (xS K)
abbrev Zn:LV:=[.int .u8 0,.int .u8 0,.int .u8 0,.int .u8 0,.int .u8 0,.int .u8 0,.int .u8 0,.int .u8 0,.int .u8 0,.int .u8 0,.int .u8 0,.int .u8 0,.int .u8 0,.int .u8 0,.int .u8 0,.int .u8 0]
abbrev Iy:LV:=[.bool false,.int .u64 0,.int .u64 0,.int .u64 0,.int .u64 0,.int .u64 0,.int .u64 0,.int .u64 0,.int .u64 0,.int .u64 0,.int .u64 0,.int .i64 0,.int .i64 0,.int .i64 0,.int .i64 0]
abbrev vI:LV:=[.bool false,.int .u64 0,.int .u64 0,.int .u64 0,.int .u64 0,.int .u64 0,.int .u64 0,.int .u64 0,.int .u64 0,.int .u64 0,.int .u64 0,.int .i64 0,.int .i64 0,.int .i64 0,.int .i64 0,.int .u64 0,.int .u64 0,.int .u64 0,.int .u64 0,.int .u64 0,.int .u64 0,.int .u64 0,.int .u64 0,.int .u64 0,.int .u64 0,.int .i64 0,.int .i64 0,.int .i64 0,.int .i64 0,.int .i64 0,.int .i64 0]
abbrev qG:LV:=[.int .i64 0,.int .i64 0,.slice none 0 0,.slice none 0 0,.int .i64 0,.slice none 0 0,.int .u64 0,.int .u64 0,.int .i64 0,.int .i64 0,.bool false,.bool false,.bool false,.int .i64 0,.int .u64 0,.int .i64 0,.int .i64 0,.int .i64 0]
abbrev tj:LV:=[.int .i64 0,.int .i64 0,.int .u64 0,.int .u64 0]
abbrev Zm:LV:=[.int .i64 0,.int .i64 0,.int .i64 0,.int .i64 0]
abbrev zi5:LV:=[.int .i64 0,.int .i64 0,.int .i64 0,.int .i64 0,.int .i64 0]
abbrev ni:LV:=[.int .i64 0,.slice none 0 0,.slice none 0 0,.int .i64 0,.slice none 0 0,.int .u64 0,.int .u64 0,.int .i64 0,.int .i64 0,.bool false,.bool false,.bool false,.int .i64 0]
abbrev JV:LV:=[.int .i64 0,.slice none 0 0,.slice none 0 0,.slice none 0 0]
abbrev VY:LV:=[.slice none 0 0,.slice none 0 0,.int .i64 0,.int .i64 0]
abbrev c8:LV:=[.int .u64 0,.int .u64 0,.int .u64 0,.int .u64 0,.int .u64 0,.int .u64 0,.int .u64 0,.int .u64 0,.int .u64 0,.int .u64 0,.int .i64 0,.int .i64 0,.int .i64 0,.int .i64 0]
abbrev lH:LV:=[.int .u64 0,.int .u64 0,.int .u64 0,.int .u64 0,.int .u64 0,.int .u64 0,.int .u64 0,.int .u64 0,.int .u64 0,.int .u64 0,.int .i64 0,.int .i64 0,.int .i64 0,.int .i64 0,.int .u64 0,.int .u64 0,.int .u64 0,.int .u64 0,.int .u64 0,.int .u64 0,.int .u64 0,.int .u64 0,.int .u64 0,.int .u64 0,.int .i64 0,.int .i64 0,.int .i64 0,.int .i64 0]
abbrev gM:LV:=[.int .u64 0,.int .u64 0,.int .u64 0,.int .u64 0,.int .u64 0,.int .u64 0,.int .u64 0,.int .u64 0,.int .u64 0,.int .u64 0,.int .i64 0,.int .i64 0,.int .i64 0,.int .i64 0,.int .i64 0,.int .i64 0]
abbrev bj:LV:=[.int .u64 0,.int .u64 0,.int .u64 0,.int .u64 0,.int .u64 0,.int .u64 0,.int .u64 0,.int .u64 0,.int .u64 0,.int .u64 0,.int .i64 0,.int .i64 0,.int .i64 0,.int .i64 0,.int .i64 0,.int .i64 0,.int .u64 0,.int .u64 0,.int .u64 0,.int .u64 0,.int .u64 0,.int .u64 0,.int .u64 0,.int .u64 0,.int .u64 0,.int .u64 0,.int .i64 0,.int .i64 0,.int .i64 0,.int .i64 0,.int .i64 0,.int .i64 0,.int .i64 0]
abbrev EC:LV:=[.int .u64 0,.int .u64 0,.int .i64 0,.int .i64 0,.bool false,.bool false,.bool false,.int .i64 0]
abbrev Ix:LV:=[.int .u64 0,.int .u64 0,.int .i64 0,.int .u8 0]
def jQ(K:VK):WK:=strings_Repeat (⟨#[0]⟩:BA) 128 (xS fun a=>K (.string a))
def jQ.u:WP|[],K=>jQ K|_,_=>no
def kG(n:Int)(K:VK):WK:=bl True (mk [.l none 0 0,.l none 0 0,.i 0,.i 0] fun o=>(fun q=>∃(e:LV→World→Prop)(k:LV→World→Nat),e [.p none,.p (some (⟨o,0,none⟩:Addr)),.i (min2 (max2 n 0) 4096),.i 0] q∧∀(d:OA)(a:Addr)(b:Int)(c:Int)(f:World),e [.p d,.p (some a),.i b,.i c] f→(br (decide (c<b)) (tick (ld (a.add 0) (xL fun g h j=>jQ (xS fun r=>kp (a.add 0) [.l g h j] (bl (1=1∧True) (mk [.string r] fun s=>kp (a.add 0) [.l g h j] (gj 1 16 [.string .empty] g h j (some ⟨s,0,none⟩) 1 fun t u v=>st (a.add 0) (.l t u v) ((fun m=>e [.p d,.p (some a),.i b,.i (adx.wrap (c+1))] m∧k [.p d,.p (some a),.i b,.i (adx.wrap (c+1))] m<k [.p d,.p (some a),.i b,.i c] f))))))))) (K (.p (some a)))) f))
def kG.u:WP|[.int .i64 a],K=>kG a K|_,_=>no
def iP(a:OA)(b:Int)(K:VK):WK:=br (!(a.isNone)) (br (decide (b≥0)) (nn a fun c=>ld (c.add 0) (xL fun e d f=>K (.bool (decide (b<(d:Int)))))) (K (.bool false))) (K (.bool false))
def iP.u:WP|[.pointer a,.int .i64 b],K=>iP a b K|_,_=>no
def fY(a:OA)(K:VK):WK:=nn a fun b=>ld (b.add 2) (xI .i64 fun c=>nn a fun d=>st (d.add 2) (.i (adx.wrap (c+1))) (nn a fun e=>ld (e.add 3) (xI .i64 fun f=>br (f==0) (K (.bool false)) (nn a fun g=>ld (g.add 3) (xI .i64 fun h=>nn a fun j=>st (j.add 3) (.i (adx.wrap (h-1))) (nn a fun k=>ld (k.add 3) (xI .i64 fun l=>K (.bool (l==0)))))))))
def fY.u:WP|[.pointer a],K=>fY a K|_,_=>no
def bW.j1(K:VK)(a:OA)(b:BA)(h:Int)(j:Bool):WK:=br j (K (.i 1)) (fY a (xB fun k=>br k (K (.i 8)) (tick (nn a fun c=>ld (c.add 1) (xL fun d e f=>jQ (xS fun m=>kp (c.add 1) [.l d e f] (kD m (some (b.size:Int)) none fun g=>bl (((b.size+g.size:Nat):Int)≤9223372036854775807) (bl (1=1∧(1=1∧True)) (bl (2=2∧True) (mk [.i h,.string (b++g)] fun n=>kp (c.add 1) [.l d e f] (gj 2 24 [.i 0,.string .empty] d e f (some ⟨n,0,none⟩) 1 fun o p q=>nn a fun r=>st (r.add 1) (.l o p q) (K (.i 0)))))))))))))
def bW(a:OA)(b:Int)(c:BA)(K:VK):WK:=br (a.isNone) (K (.i 2)) (iP a b (xB fun d=>br (!d) (bW.j1 K a c b true) (bW.j1 K a c b (decide ((c.size:Int)>128)))))
def bW.u:WP|[.pointer a,.int .i64 b,.string c],K=>bW a b c K|_,_=>no
def eW(b:OA)(e:Int)(K:VK):WK:=br (b.isNone) (K (.tuple ⟨[.string .empty,.i 2]⟩)) (iP b e (xB fun k=>br (!k) (K (.tuple ⟨[.string .empty,.i 1]⟩)) (nn b fun l=>ld (l.add 1) (xL fun D m E=>(fun n=>∃(f:LV→World→Prop)(h:LV→World→Nat),f [.string .empty,.i 0,.i (adx.wrap ((m:Int) -1))] n∧∀(c:BA)(d:Int)(a:Int)(g:World),f [.string c,.i d,.i a] g→(br (decide (a≥0)) (nn b fun o=>ld (o.add 1) (xL fun p q F=>iO p q a 2 fun r=>ld (r.add 0) (xI .i64 fun s=>br (s==e) (nn b fun t=>ld (t.add 1) (xL fun u v G=>iO u v a 2 fun w=>ld (w.add 1) (xS fun x=>K (.tuple ⟨[.string x,.i 0]⟩)))) ((fun j=>f [.string c,.i d,.i (adx.wrap (a-1))] j∧h [.string c,.i d,.i (adx.wrap (a-1))] j<h [.string c,.i d,.i a] g))))) (nn b fun y=>ld (y.add 0) (xL fun z A H=>iO z A e 1 fun B=>ld B (xS fun C=>K (.tuple ⟨[.string C,.i 0]⟩))))) g)))))
def eW.u:WP|[.pointer a,.int .i64 b],K=>eW a b K|_,_=>no
def cu(a:OA)(K:VK):WK:=br (a.isNone) (K (.i 0)) (nn a fun b=>ld (b.add 0) (xL fun d c e=>K (.i (c:Int))))
def cu.u:WP|[.pointer a],K=>cu a K|_,_=>no
def fO(b:OA)(K:VK):WK:=br (b.isNone) (K (.i 2)) (fY b (xB fun q=>br q (K (.i 8)) (nn b fun r=>ld (r.add 1) (xL fun s m t=>(fun u=>∃(h:LV→World→Prop)(n:LV→World→Nat),h [.i 0,.l s m t,.i (m:Int),.i 0] u∧∀(f:Int)(c:OA)(d:Nat)(g:Nat)(e:Int)(a:Int)(j:World),h [.i f,.l c d g,.i e,.i a] j→(br (decide (a<e)) (iO c d a 2 fun v=>aj v 2 fun o=>mk [.i 0,.string .empty] fun k=>bl (o.length=2) (iN (⟨k,0,none⟩:Addr) o (tick (nn b fun w=>ld (w.add 0) (xL fun x y D=>ld ((⟨k,0,none⟩:Addr).add 0) (xI .i64 fun z=>ld ((⟨k,0,none⟩:Addr).add 1) (xS fun A=>iO x y z 1 fun B=>st B (.string A) ((fun p=>h [.i f,.l c d g,.i e,.i (adx.wrap (a+1))] p∧n [.i f,.l c d g,.i e,.i (adx.wrap (a+1))] p<n [.i f,.l c d g,.i e,.i a] j))))))))) (nn b fun C=>st (C.add 1) (.l none 0 0) (K (.i 0)))) j)))))
def fO.u:WP|[.pointer a],K=>fO a K|_,_=>no
def iu(a:Int)(K:VK):WK:=bl ((104:Int)≠0) (bl ((104:Int)≠0) (K (.i (max2 (adx.wrap ((adx.wrap ((max2 a 0).tdiv (104:Int)))+(min2 ((max2 a 0).tmod (104:Int)) 1))) 1))))
def iu.u:WP|[.int .i64 a],K=>iu a K|_,_=>no
def mK(b:LV)(K:VK):WK:=mk b fun a=>ld ((⟨a,0,none⟩:Addr).add 0) (xI .i64 fun c=>br (decide (c≥1)) (ld ((⟨a,0,none⟩:Addr).add 0) (xI .i64 fun d=>br (decide (d≤1152921504606846976)) (ld ((⟨a,0,none⟩:Addr).add 1) (xI .i64 fun e=>br (decide (e≥0)) (ld ((⟨a,0,none⟩:Addr).add 1) (xI .i64 fun f=>br (decide (f<4096)) (ld ((⟨a,0,none⟩:Addr).add 2) (xS fun g=>K (.bool (decide ((g.size:Int)≤104))))) (K (.bool false)))) (K (.bool false)))) (K (.bool false)))) (K (.bool false)))
def mK.u:WP|[.agg ⟨a⟩],K=>mK a K|_,_=>no
def aD(e:OA)(n o:Int)(K:VK):WK:=(fun p=>∃(c:LV→World→Prop)(f:LV→World→Nat),c [.i (min2 (max2 n 1) 8),.i 0] p∧∀(b:Int)(a:Int)(d:World),c [.i b,.i a] d→(br (decide (a<b)) (tick (nn e fun g=>ld (g.add 0) (xL fun h j k=>bl ((0:Int)≤(adx.wrap (8* a))) (bl (1=1∧True) (mk [.int .u8 (IntKind.u8.wrap (shr .i64 o (adx.wrap (8* a))))] fun q=>kp (g.add 0) [.l h j k] (gj 1 1 [.int .u8 0] h j k (some ⟨q,0,none⟩) 1 fun r s t=>nn e fun u=>st (u.add 0) (.l r s t) ((fun m=>c [.i b,.i (adx.wrap (a+1))] m∧f [.i b,.i (adx.wrap (a+1))] m<f [.i b,.i a] d)))))))) (K (.tuple ⟨[]⟩))) d)
def aD.u:WP|[.pointer a,.int .i64 b,.int .i64 c],K=>aD a b c K|_,_=>no
def gr(a:OA)(b:BA)(K:VK):WK:=nn a fun c=>ld (c.add 0) (xL fun d e f=>Bx d e f b fun g h i=>nn a fun j=>st (j.add 0) (.l g h i) (K (.tuple ⟨[]⟩)))
def gr.u:WP|[.pointer a,.string b],K=>gr a b K|_,_=>no
def kM(a:Int)(K:VK):WK:=bl ((0:Int)≤8) (bl ((0:Int)≤16) (bl ((0:Int)≤24) (bl (1=1∧(1=1∧(1=1∧(1=1∧True)))) (mk [.int .u8 (IntKind.u8.wrap a),.int .u8 (IntKind.u8.wrap (shr .u32 a 8)),.int .u8 (IntKind.u8.wrap (shr .u32 a 16)),.int .u8 (IntKind.u8.wrap (shr .u32 a 24))] fun b=>Rg (some ⟨b,0,none⟩) 4 fun c=>K (.string c)))))
def kM.u:WP|[.int .u32 a],K=>kM a K|_,_=>no
def mU(D:Int)(t:BA)(K:VK):WK:=(fun E=>∃(u:LV→World→Prop)(z:LV→World→Nat),u [.int .u32 0,.int .u32 (bG .u32 .xor 4294967295 D),.i (t.size:Int),.i 0] E∧∀(v:Int)(c:Int)(g:Int)(a:Int)(w:World),u [.int .u32 v,.int .u32 c,.i g,.i a] w→(br (decide (a<g)) (uQ t a fun j=>(fun F=>∃(x:LV→World→Prop)(A:LV→World→Nat),x [.int .u32 v,.int .u32 (bG .u32 .xor c (IntKind.u32.wrap (j.toNat:Int))),.i a,.i g,.i a,.bool (decide (a<g)),.i a,.int .u32 c,.string t,.i a,.int .u8 (j.toNat:Int),.int .u32 (IntKind.u32.wrap (j.toNat:Int)),.int .u32 (bG .u32 .xor c (IntKind.u32.wrap (j.toNat:Int))),.i 0] F∧∀(d:Int)(b:Int)(k:Int)(e:Int)(f:Int)(l:Bool)(m:Int)(n:Int)(o:BA)(p:Int)(q:Int)(r:Int)(s:Int)(h:Int)(y:World),x [.int .u32 d,.int .u32 b,.i k,.i e,.i f,.bool l,.i m,.int .u32 n,.string o,.i p,.int .u8 q,.int .u32 r,.int .u32 s,.i h] y→(br (decide (h<8)) (bl ((0:Int)≤1) ((fun B=>x [.int .u32 d,.int .u32 (bG .u32 .xor (shr .u32 b 1) (bG .u32 .and 2197175160 (IntKind.u32.wrap (0-(bG .u32 .and b 1))))),.i k,.i e,.i f,.bool l,.i m,.int .u32 n,.string o,.i p,.int .u8 q,.int .u32 r,.int .u32 s,.i (adx.wrap (h+1))] B∧A [.int .u32 d,.int .u32 (bG .u32 .xor (shr .u32 b 1) (bG .u32 .and 2197175160 (IntKind.u32.wrap (0-(bG .u32 .and b 1))))),.i k,.i e,.i f,.bool l,.i m,.int .u32 n,.string o,.i p,.int .u8 q,.int .u32 r,.int .u32 s,.i (adx.wrap (h+1))] B<A [.int .u32 d,.int .u32 b,.i k,.i e,.i f,.bool l,.i m,.int .u32 n,.string o,.i p,.int .u8 q,.int .u32 r,.int .u32 s,.i h] y))) ((fun C=>u [.int .u32 d,.int .u32 b,.i e,.i (adx.wrap (f+1))] C∧z [.int .u32 d,.int .u32 b,.i e,.i (adx.wrap (f+1))] C<z [.int .u32 v,.int .u32 c,.i g,.i a] w))) y)) (K (.int .u32 (bG .u32 .xor 4294967295 c)))) w)
def mU.u:WP|[.int .u32 a,.string b],K=>mU a b K|_,_=>no
def bM(a:OA)(K:VK):WK:=nn a fun b=>ld (b.add 0) (xL fun c d f=>Rg c d fun e=>K (.string e))
def bM.u:WP|[.pointer a],K=>bM a K|_,_=>no
def kC(c:LV)(K:VK):WK:=mk c fun b=>aj (⟨b,0,none⟩:Addr) 3 fun d=>mK d (xB fun e=>br (!e) (K (.tuple ⟨[.string .empty,.i 1]⟩)) (bl True (mk [.l none 0 0] fun a=>ld ((⟨b,0,none⟩:Addr).add 0) (xI .i64 fun f=>aD (some (⟨a,0,none⟩:Addr)) 8 f (x0 (ld ((⟨b,0,none⟩:Addr).add 1) (xI .i64 fun g=>aD (some (⟨a,0,none⟩:Addr)) 2 g (x0 (ld ((⟨b,0,none⟩:Addr).add 2) (xS fun h=>aD (some (⟨a,0,none⟩:Addr)) 2 (h.size:Int) (x0 (ld ((⟨b,0,none⟩:Addr).add 2) (xS fun j=>gr (some (⟨a,0,none⟩:Addr)) j (x0 (ld ((⟨b,0,none⟩:Addr).add 2) (xS fun k=>strings_Repeat (⟨#[0]⟩:BA) (adx.wrap (104-(k.size:Int))) (xS fun m=>gr (some (⟨a,0,none⟩:Addr)) m (x0 (bM (some (⟨a,0,none⟩:Addr)) (xS fun n=>mU 0 n (xI .u32 fun o=>kM o (xS fun p=>gr (some (⟨a,0,none⟩:Addr)) p (x0 (ld ((⟨b,0,none⟩:Addr).add 0) (xI .i64 fun q=>aD (some (⟨a,0,none⟩:Addr)) 8 q (x0 (bM (some (⟨a,0,none⟩:Addr)) (xS fun r=>K (.tuple ⟨[.string r,.i 0]⟩)))))))))))))))))))))))))))))
def kC.u:WP|[.agg ⟨a⟩],K=>kC a K|_,_=>no
def ir.j1(K:VK)(h:BA)(r g j:Int)(k:OA)(s:Bool):WK:=br s (K (.i 1)) (iu (h.size:Int) (xI .i64 fun t=>br (decide (t>(adx.wrap (r-g)))) (K (.i 3)) ((fun u=>∃(d:LV→World→Prop)(e:LV→World→Nat),d [.string h,.i 0,.i 0] u∧∀(a:BA)(c:Int)(b:Int)(f:World),d [.string a,.i c,.i b] f→(br (b==0) (kD a none (some (min2 (a.size:Int) 104)) fun v=>bl (1=1∧(1=1∧(1=1∧True))) (kC [.i j,.i b,.string v] (x2 fun w x=>(xS fun y=>(xI .i64 fun D=>bW k (adx.wrap (g+b)) y (xI .i64 fun l=>br (l !=0) (K (.i l)) (kD a (some (min2 (a.size:Int) 104)) none fun m=>(fun n=>d [.string m,.i c,.i (adx.wrap (b+1))] n∧e [.string m,.i c,.i (adx.wrap (b+1))] n<e [.string a,.i c,.i b] f)))) x) w))) (br (decide ((a.size:Int)>0)) (kD a none (some (min2 (a.size:Int) 104)) fun z=>bl (1=1∧(1=1∧(1=1∧True))) (kC [.i j,.i b,.string z] (x2 fun A B=>(xS fun C=>(xI .i64 fun E=>bW k (adx.wrap (g+b)) C (xI .i64 fun o=>br (o !=0) (K (.i o)) (kD a (some (min2 (a.size:Int) 104)) none fun p=>(fun q=>d [.string p,.i c,.i (adx.wrap (b+1))] q∧e [.string p,.i c,.i (adx.wrap (b+1))] q<e [.string a,.i c,.i b] f)))) B) A))) (K (.i 0)))) f))))
def ir(d:OA)(a b c:Int)(e:BA)(K:VK):WK:=br (decide (c<1)) (ir.j1 K e b a c d true) (br (decide (c>1152921504606846976)) (ir.j1 K e b a c d true) (br (decide (a<0)) (ir.j1 K e b a c d true) (cu d (xI .i64 fun f=>br (decide (b>f)) (ir.j1 K e b a c d true) (ir.j1 K e b a c d (decide (a>b)))))))
def ir.u:WP|[.pointer a,.int .i64 b,.int .i64 c,.int .i64 d,.string e],K=>ir a b c d e K|_,_=>no
def jV(a:BA)(K:VK):WK:=bl (1=1∧True) (mk [.string a,.bool false] fun b=>K (.p (some (⟨b,0,none⟩:Addr))))
def jV.u:WP|[.string a],K=>jV a K|_,_=>no
def cb.j1(K:VK)(a:OA)(b:Int):WK:=nn a fun c=>ld (c.add 0) (xS fun d=>kD d none (some b) fun e=>nn a fun f=>ld (f.add 0) (xS fun g=>kD g (some b) none fun h=>nn a fun i=>st (i.add 0) (.string h) (K (.string e))))
def cb(a:OA)(b:Int)(K:VK):WK:=br (a.isNone) (K (.string .empty)) (nn a fun c=>ld (c.add 1) (xB fun d=>br d (nn a fun e=>st (e.add 1) (.bool true) (nn a fun f=>ld (f.add 1) (xB fun g=>br g (K (.string .empty)) (cb.j1 K a b)))) (br (decide (b<0)) (nn a fun h=>st (h.add 1) (.bool true) (nn a fun i=>ld (i.add 1) (xB fun j=>br j (K (.string .empty)) (cb.j1 K a b)))) (nn a fun k=>ld (k.add 0) (xS fun l=>nn a fun m=>st (m.add 1) (.bool (decide (b>(l.size:Int)))) (nn a fun n=>ld (n.add 1) (xB fun o=>br o (K (.string .empty)) (cb.j1 K a b))))))))
def cb.u:WP|[.pointer a,.int .i64 b],K=>cb a b K|_,_=>no
def ao(p:OA)(q:Int)(K:VK):WK:=cb p (min2 (max2 q 1) 8) (xS fun h=>YO h fun r s=>(fun t=>∃(j:LV→World→Prop)(m:LV→World→Nat),j [.i 0,.i 0,.l (some ⟨r,0,none⟩) h.size s,.i (h.size:Int),.i 0] t∧∀(f:Int)(b:Int)(c:OA)(d:Nat)(g:Nat)(e:Int)(a:Int)(k:World),j [.i f,.i b,.l c d g,.i e,.i a] k→(br (decide (a<e)) (iO c d a 1 fun u=>ld u (xI .u8 fun n=>bl ((0:Int)≤(adx.wrap (8* a))) ((fun o=>j [.i f,.i (bG .i64 .or b (shl .i64 (adx.wrap n) (adx.wrap (8* a)))),.l c d g,.i e,.i (adx.wrap (a+1))] o∧m [.i f,.i (bG .i64 .or b (shl .i64 (adx.wrap n) (adx.wrap (8* a)))),.l c d g,.i e,.i (adx.wrap (a+1))] o<m [.i f,.i b,.l c d g,.i e,.i a] k)))) (K (.i b))) k))
def ao.u:WP|[.pointer a,.int .i64 b],K=>ao a b K|_,_=>no
def nG(h:BA)(K:VK):WK:=mk [.i 0,.i 0] fun o=>mk [.i 0,.i 0] fun q=>tick (kD h none (some 8) fun r=>kD h (some (adx.wrap ((h.size:Int) -8))) none fun s=>bl (1=1∧(1=1∧True)) ((fun t=>∃(f:LV→World→Prop)(e:LV→World→Nat),f [.p (some (⟨o,0,none⟩:Addr)),.p (some (⟨q,0,none⟩:Addr)),.agg ⟨[.string r,.string s]⟩,.i 0] t∧∀(b:Addr)(c:Addr)(d:LV)(a:Int)(g:World),f [.p (some b),.p (some c),.agg ⟨d⟩,.i a] g→(br (decide (a<2)) (yq d 2 a (xS fun u=>jV u (xP fun v=>ao v 8 (xI .i64 fun j=>br (decide (j≥1)) (br (decide (j≤1152921504606846976)) (bl ((0:Int)≤a∧a<2) (st (c.add (a.toNat* 1)) (.i j) ((fun k=>f [.p (some b),.p (some c),.agg ⟨d⟩,.i (adx.wrap (a+1))] k∧e [.p (some b),.p (some c),.agg ⟨d⟩,.i (adx.wrap (a+1))] k<e [.p (some b),.p (some c),.agg ⟨d⟩,.i a] g)))) ((fun l=>f [.p (some b),.p (some c),.agg ⟨d⟩,.i (adx.wrap (a+1))] l∧e [.p (some b),.p (some c),.agg ⟨d⟩,.i (adx.wrap (a+1))] l<e [.p (some b),.p (some c),.agg ⟨d⟩,.i a] g))) ((fun m=>f [.p (some b),.p (some c),.agg ⟨d⟩,.i (adx.wrap (a+1))] m∧e [.p (some b),.p (some c),.agg ⟨d⟩,.i (adx.wrap (a+1))] m<e [.p (some b),.p (some c),.agg ⟨d⟩,.i a] g)))))) (aj c 2 fun n=>bl (n.length=2) (iN b n (aj b 2 fun w=>K (.agg ⟨w⟩))))) g)))
def nG.u:WP|[.string a],K=>nG a K|_,_=>no
def iD(h:OA)(K:VK):WK:=cu h (xI .i64 fun o=>(fun p=>∃(e:LV→World→Prop)(j:LV→World→Nat),e [.i 0,.i 0,.i o,.i 0] p∧∀(d:Int)(b:Int)(c:Int)(a:Int)(f:World),e [.i d,.i b,.i c,.i a] f→(br (decide (a<c)) (eW h a (x2 fun q r=>(xS fun s=>(xI .i64 fun t=>nG s (xA 2 fun k=>mk [.i 0,.i 0] fun g=>bl (k.length=2) (iN (⟨g,0,none⟩:Addr) k (bl ((0:Int)≤0∧(0:Int)<2) (ld ((⟨g,0,none⟩:Addr).add ((0:Int).toNat* 1)) (xI .i64 fun l=>bl ((0:Int)≤1∧(1:Int)<2) (ld ((⟨g,0,none⟩:Addr).add ((1:Int).toNat* 1)) (xI .i64 fun m=>(fun n=>e [.i d,.i (max2 (max2 b l) m),.i c,.i (adx.wrap (a+1))] n∧j [.i d,.i (max2 (max2 b l) m),.i c,.i (adx.wrap (a+1))] n<j [.i d,.i b,.i c,.i a] f))))))))) r) q)) (K (.i b))) f))
def iD.u:WP|[.pointer a],K=>iD a K|_,_=>no
end Go.Prog
namespace Go.Sep
open Go.Den Go.RowKit Go.Prog Go.bI
def jZ(l:List (Int×BA)):LV:=l.flatMap fun p=>[.i p.1,.string p.2]
def tN(l:List (Int×BA))(i:Nat)(p:Int×BA)(h:l[i]?=some p):
 (jZ l)[i* 2]?=some (.i p.1)∧(jZ l)[i* 2+1]?=some (.string p.2):=by
 induction l generalizing i with
 |nil=>simp at h
 |cons q l ih=>
  cases i with
  |zero=>simp at h;subst h;exact⟨rfl,rfl⟩
  |succ i=>
   simp only[adR] at h;have:=ih i h;rw[show(i+1)* 2=(i* 2)+2 from by omega,show i* 2+2+1=(i* 2+1)+2 from by omega];exact this
def uw(sb lb:OA)(n sc m lc:Nat)(ops arm:Int):LV:=[.l sb n sc,.l lb m lc,.i ops,.i arm]
def fA(d:Nat)(D:aA):HP:=Sq fun(v:(OA×Nat)×(OA×Nat))=>
 sep (pt d (uw v.1.1 v.2.1 D.safe.length v.1.2 D.later.length v.2.2 D.ops D.arm))
  (sep (own v.1.1 D.safe.length v.1.2 1 (D.safe.map .string)) (own v.2.1 D.later.length v.2.2 2 (jZ D.later)))
section
variable {W w:World} {L:LH} {k d:Nat} {D:aA}
def rS(h:St W w L)(hk:L[k]?=some (fA d D)):∃sb sc lb lc,
 St W w (pt d (uw sb lb D.safe.length sc D.later.length lc D.ops D.arm)::own sb D.safe.length sc 1 (D.safe.map .string)::own lb D.later.length lc 2 (jZ D.later)::L.eraseIdx k):=by
 obtain⟨⟨⟨sb,sc⟩,lb,lc⟩,h1⟩:=(h.focus hk).ex;have h2:=h1.split;have h3:=(h2.perm (ad2.swap _ _ _)).split;refine⟨sb,sc,lb,lc,h3.perm ?_⟩;exact(ad2.cons _ (ad2.swap _ _ _)).trans (ad2.swap _ _ _)
def qp{sb lb:OA}{sc lc n m:Nat}{safe:List BA}{later:List (Int×BA)}{ops arm:Int}{A:HP}(hk:L[k]?=some A)(hn:n=safe.length)(hm:m=later.length)
 (h:St W w (pt d (uw sb lb n sc m lc ops arm)::own sb n sc 1 (safe.map .string)::own lb m lc 2 (jZ later)::L.eraseIdx k)):St W w (L.set k (fA d ⟨safe,later,ops,arm⟩)):=by
 subst hn hm;refine St.og (A:=A) ?_ hk;refine St.ow ((sb,sc),(lb,lc)) (St.join ?_);refine St.perm ?_ (ad2.swap _ _ _);exact St.join (h.perm ((ad2.swap _ _ _).trans (ad2.cons _ (ad2.swap _ _ _))))
def Db(h:St W w L)(hk:L[k]?=some (fA d D)):∃sb sc lb lc,w.cell? ⟨d,0,none⟩=some (.l sb D.safe.length sc)∧w.cell? ⟨d,1,none⟩=some (.l lb D.later.length lc)∧
 w.cell? ⟨d,2,none⟩=some (.i D.ops)∧w.cell? ⟨d,3,none⟩=some (.i D.arm):=by
 obtain⟨sb,sc,lb,lc,hs⟩:=rS h hk;exact⟨sb,sc,lb,lc,(hs.cell (k:=0) rfl).1,(hs.cell (k:=0) rfl).1,(hs.cell (k:=0) rfl).1,(hs.cell (k:=0) rfl).1⟩
def wU{i:Int}{K:VK}(h:St W w L)(hk:L[k]?=some (fA d D))(hK:K (.bool (decide (D.is i))) w):iP (some ⟨d,0,none⟩) i K w:=by
 obtain⟨sb,sc,lb,lc,h0,_⟩:=Db h hk;unfold iP;simp only[nz,ady,adz];refine dJ (fun hi=>R3 h0 ?_) (fun hi=>?_)
 ·simp only[nz,ady,adz];have e:decide (i<(D.safe.length:Int))=decide (D.is i):=decide_eq_decide.2 (by unfold aA.is;omega);rw[e];exact hK
 ·have e:false=decide (D.is i):=(decide_eq_false (by unfold aA.is;omega)).symm;rw[e];exact hK
def td{K:VK}(h:St W w L)(hk:L[k]?=some (fA d D))(hK:∀w',St W w' (L.set k (fA d D.tick))→K (.bool D.qP) w'):fY (some ⟨d,0,none⟩) K w:=by
 obtain⟨sb,sc,lb,lc,hs⟩:=rS h hk;unfold fY;simp only[nz,ady,adz];refine bR (k:=0) hs rfl rfl ?_;simp only[nz,ady,adz];refine mL (k:=0) hs rfl (adH rfl) rfl fun w hs=>?_;simp only[nz,ady,adz] at hs;refine bR (k:=0) hs rfl rfl ?_;simp only[nz,ady,adz];refine Gs (fun h0=>?_) (fun h0=>?_)
 ·have e:D.tick=⟨D.safe,D.later,adx.wrap (D.ops+1),D.arm⟩:=by simp[aA.tick,h0]
  have e2:D.qP=false:=by simp[aA.qP,h0]
  rw[e,e2] at hK;exact hK _ (qp hk rfl rfl hs)
 ·refine bR (k:=0) hs rfl rfl ?_;simp only[nz,ady,adz];refine mL (k:=0) hs rfl (adH rfl) rfl fun w hs=>?_;simp only[nz,ady,adz] at hs;refine bR (k:=0) hs rfl rfl ?_;simp only[nz,ady,adz];have e:D.tick=⟨D.safe,D.later,adx.wrap (D.ops+1),adx.wrap (D.arm-1)⟩:=by simp[aA.tick,h0]
  have e2:D.qP=(adx.wrap (D.arm-1)==0):=by simp[aA.qP,h0]
  rw[e,e2] at hK;exact hK _ (qp hk rfl rfl hs)
end
section
variable {W w:World} {L:LH} {k d:Nat} {D:aA}
def Al(c:UInt8):∀n,Am [c] n=adQ n c
 |0=>rfl
 |n+1=>by simp[Am,Al c n,List.replicate_succ]
def yM{s:BA}{n:Int}{K:VK}(h:St W w L)(h0:0≤n)(h1:s.size* n.toNat≤140737488355328)(h2:n≤9223372036854775807)(hK:∀w',St W w' L→K (.string ⟨(Am s.data.toList n.toNat).toArray⟩) w'):strings_Repeat s n K w:=
 ⟨⟨h0,h1,h2⟩,fun w' hb=>hK w' (h.pC hb)⟩
def Bt{K:VK}(h:St W w L)(hK:∀w',St W w' L→K (.string (kv 128)) w'):jQ K w:=by
 unfold jQ;refine yM h (by decide) (by decide) (by decide) fun w h=>?_;simp only[nz,ady,adz];have e:(⟨(Am (⟨#[0]⟩:BA).data.toList (128:Int).toNat).toArray⟩:BA)=kv 128:=by
  show(⟨(Am [0] 128).toArray⟩:BA)=_;rw[Al];rfl
 rw[e];exact hK w h
def kP{K:VK}(h:St W w L)(hk:L[k]?=some (fA d D))(hK:K (.i (D.safe.length:Int)) w):cu (some ⟨d,0,none⟩) K w:=by
 obtain⟨sb,sc,lb,lc,h0,h1,h2,h3⟩:=Db h hk;unfold cu;simp only[nz,ady,adz];refine R3 h0 ?_;simp only[nz,ady,adz];exact hK
def rB(s:BA)(i j:Nat):(s.extract i j).size=min j s.size-i:=by simp[ByteArray.size_extract]
def BM(n i:Nat):(kv n).extract i n=kv (n-i):=by
 apply ByteArray.ext;simp[kv,ByteArray.data_extract]
def vw{i:Int}{s:BA}{b:Bool}{K:VK}(h:St W w L)(hk:L[k]?=some (fA d D))(ik:D.Ok)(hb:b=decide (128<s.size))(hi:D.is i)
 (hK:∀w',St W w' (L.set k (fA d (D.write i s).1))→K (.i (D.write i s).2) w'):bW.j1 K (some ⟨d,0,none⟩) s i b w:=by
 unfold bW.j1;refine pO (fun h1=>?_) (fun h1=>?_)
 ·have h2:128<s.size:=by rw[hb] at h1;exact of_decide_eq_true h1
  have e:D.write i s=(D,1):=by simp[aA.write,h2]
  rw[e] at hK;refine hK w ?_;rw[kE hk];exact h
 ·have h2: ¬128<s.size:=by rw[hb] at h1;exact of_decide_eq_false h1
  refine td h hk fun w h=>?_;simp only[nz,ady,adz];refine pO (fun h3=>?_) (fun h3=>?_)
  ·have e:D.write i s=(D.tick,8):=by simp[aA.write,h2,hi,h3]
   rw[e] at hK;exact hK w h
  ·have e:D.write i s=({D.tick with later:=D.later++[(i,aA.pad s)]},0):=by simp[aA.write,h2,hi,h3]
   rw[e] at hK;refine kA h fun w h=>?_;have rj:(L.set k (fA d D.tick))[k]?=some (fA d D.tick):=iF hk;obtain⟨sb,sc,lb,lc,hs⟩:=rS h rj;refine bR (k:=0) hs rfl rfl ?_;simp only[nz,ady,adz];refine Bt hs fun w hs=>?_;simp only[nz,ady,adz];refine iV (k:=0) hs rfl rfl ?_;have oE:(kv 128).size=128:=qe 128;unfold kD;simp only[nz,ady,adz];refine⟨⟨by omega,by omega⟩,?_⟩;have e3:(kv 128).extract (s.size:Int).toNat (kv 128).size=kv (128-s.size):=by rw[oE,adB];exact BM 128 s.size
   rw[e3];refine⟨by rw[qe];omega,?_⟩;refine ic hs fun r w hs=>?_;refine iV (k:=1) hs rfl rfl ?_;have hl:D.later.length<1099511627776:=ik.less;refine qb (k:=3) (n:=D.tick.later.length) (ys:=[.i i,.string (aA.pad s)]) hs rfl (BB (k':=0) hs rfl rfl fun j v hj=>by rw[adE];exact hj) (by simp) rfl
    (by show(D.later.length+1)* 24≤_;omega) (by show D.later.length+1≤_;omega) (by simp[Value.oneCell']) fun b' c' w hs=>?_
   simp only[nz,ady,adz] at hs⊢;refine mL (k:=1) hs rfl (adH rfl) rfl fun w hs=>?_;simp only[nz,ady,adz] at hs;refine hK w ?_;have e4:jZ D.tick.later++[.i i,.string (aA.pad s)]=jZ (D.later++[(i,aA.pad s)]):=by simp[jZ,aA.tick]
   rw[e4] at hs;have h5:=qp (sb:=sb) (sc:=sc) (lb:=b') (lc:=c') (safe:=D.safe) (ops:=D.tick.ops) (arm:=D.tick.arm) rj rfl (by simp[aA.tick]) hs.drop;rw[aeO] at h5;exact h5
def za{i:Int}{s:BA}{K:VK}(h:St W w L)(hk:L[k]?=some (fA d D))(ik:D.Ok)
 (hK:∀w',St W w' (L.set k (fA d (D.write i s).1))→K (.i (D.write i s).2) w'):bW (some ⟨d,0,none⟩) i s K w:=by
 unfold bW;simp only[nz,ady,adz];refine wU h hk ?_;simp only[nz,ady,adz];by_cases hi:D.is i
 ·rw[decide_eq_true hi];simp only[nz,ady,adz];refine vw h hk ik ?_ hi hK;exact decide_eq_decide.2 (by omega)
 ·rw[decide_eq_false hi];simp only[nz,ady,adz];have e:D.write i s=(D,1):=by simp[aA.write,hi]
  rw[e] at hK;unfold bW.j1;simp only[nz,ady,adz];refine hK w ?_;rw[kE hk];exact h
end
def ah{n:Int}(h: -9223372036854775808≤n∧n≤9223372036854775807):adx.wrap n=n:=by
 simp only[IntKind.wrap,IntKind.bits,IntKind.signed,aeC,decide_eq_true_eq,Int.reducePow,Nat.reduceSub,ge_iff_le];split<;>omega
def pr(l m:List (Int×BA))(i:Int):aA.last (l++m) i=(aA.last m i).or (aA.last l i):=by
 unfold aA.last;rw[List.reverse_append,List.find?_append];cases List.find? (fun p=>p.1==i) m.reverse<;>simp
def uq(p:Int×BA)(l:List (Int×BA))(i:Int):aA.last (p::l) i=(aA.last l i).or (if p.1==i then some p.2 else none):=by
 rw[show p::l=[p]++l from rfl,pr]
 congr 1
 simp only[aA.last,List.reverse_singleton,List.find?_cons,List.find?_nil];cases h:(p.1==i)<;>simp
section
variable {W w:World} {L:LH} {k d:Nat} {D:aA}
def drop_cons{α:Type}{l:List α}{j:Nat}{p:α}(h:l[j]?=some p):l.drop j=p::l.drop (j+1):=by
 obtain⟨hj,he⟩:=adC.1 h;rw[←he];exact aef hj
def oB{i:Int}{K:VK}(h:St W w L)(hk:L[k]?=some (fA d D))(ik:D.Ok)(hK:K (.tuple ⟨[.string (D.read i).1,.i (D.read i).2]⟩) w):eW (some ⟨d,0,none⟩) i K w:=by
 obtain⟨sb,sc,lb,lc,hs⟩:=rS h hk;have hl:=ik.less;unfold eW;simp only[nz,ady,adz];refine wU h hk ?_;simp only[nz,ady,adz];by_cases hi:D.is i
 case neg=>
  rw[decide_eq_false hi];simp only[nz,ady,adz];have e:D.read i=(.empty,1):=by simp[aA.read,hi]
  rw[e] at hK;exact hK
 rw[decide_eq_true hi];simp only[nz,ady,adz];have e:D.read i=(D.now i,0):=by simp[aA.read,hi]
 rw[e] at hK;refine bR (k:=0) hs rfl rfl ?_;simp only[nz,ady,adz];refine⟨fun us w'=>∃j:Nat,us=[.string .empty,.i 0,.i ((j:Int) -1)]∧w'=w∧j≤D.later.length∧aA.last (D.later.drop j) i=none,
  fun us _=>match us with|[_,_,.int _ n]=>(n+1).toNat|_=>0,⟨D.later.length,by rw[ah (by omega)],rfl,adG _,by simp[aA.last]⟩,?_⟩
 rintro s1 n2 n3 w2 ⟨j,he,rfl,hj,hn⟩;cases he
 refine dJ (fun h0=>?_) (fun h0=>?_)
 ·obtain⟨m,rfl⟩:∃m,j=m+1:=⟨j-1,by omega⟩;have a8:m<D.later.length:=by omega
  obtain⟨p,hp⟩:∃p,D.later[m]?=some p:=⟨D.later[m],by simp[a8]⟩;obtain⟨T1,FN⟩:=tN _ _ _ hp;have em:((m+1:Nat):Int) -1=(m:Int):=by omega
  rw[em];refine bR (k:=0) hs rfl rfl ?_;simp only[nz,ady,adz];refine sA (k:=2) hs rfl (by omega) fun r hr=>?_;subst hr;simp only[nz,ady,adz];refine xx (k:=2) hs rfl (v:=.i p.1) (by rw[adB];exact T1) ?_;simp only[nz,ady,adz];refine Gs (fun h1=>?_) (fun h1=>?_)
  ·refine bR (k:=0) hs rfl rfl ?_;simp only[nz,ady,adz];refine sA (k:=2) hs rfl (by omega) fun r' hr'=>?_;cases hr'
   simp only[nz,ady,adz];refine xx (k:=2) hs rfl (v:=.string p.2) (by rw[adB];exact FN) ?_;simp only[nz,ady,adz];have:D.now i=p.2:=by
    unfold aA.now;have qk:D.later=D.later.take m++(p::D.later.drop (m+1)):=by rw[←drop_cons hp,ad5]
    rw[qk,pr,uq,hn];simp[h1]
   rw[this] at hK;exact hK
  ·have e5:adx.wrap ((m:Int) -1)=(m:Int) -1:=ah (by omega);rw[e5];refine⟨⟨m,rfl,rfl,by omega,?_⟩,by omega⟩;rw[drop_cons hp,uq,hn];simp[h1]
 ·have Xg:j=0:=by omega
  subst Xg;have CW:aA.last D.later i=none:=hn;refine bR (k:=0) hs rfl rfl ?_;simp only[nz,ady,adz];refine sA (k:=1) hs rfl hi fun r hr=>?_;subst hr;have a8:i.toNat<D.safe.length:=by have:=hi.1;have:=hi.2;omega
  refine xx (k:=1) hs rfl (v:=.string (D.safe[i.toNat])) (by simp[a8]) ?_;simp only[nz,ady,adz];have:D.now i=D.safe[i.toNat]:=by
   unfold aA.now;rw[CW];simp[a8]
  rw[this] at hK;exact hK
def Oy{n:Int}{K:VK}(h:St W w L)(hK:∀d w',St W w' (fA d (aA.new n)::L)→K (.p (some ⟨d,0,none⟩)) w'):kG n K w:=by
 unfold kG;simp only[nz,ady,adz];refine ic h fun d w hs=>?_;have hn:0≤min2 (max2 n 0) 4096∧min2 (max2 n 0) 4096≤4096:=by unfold min2 max2;split<;>split<;>omega
 refine⟨fun us w'=>∃(j:Nat)(b:OA)(c:Nat),us=[.p none,.p (some ⟨d,0,none⟩),.i (min2 (max2 n 0) 4096),.i j]∧(j:Int)≤min2 (max2 n 0) 4096∧
  St W w' (pt d [.l b j c,.l none 0 0,.i 0,.i 0]::own b j c 1 ((adQ j (kv 128)).map .string)::L),
  fun us _=>match us with|[_,_,.int _ m,.int _ j]=>(m-j).toNat|_=>0,⟨0,none,0,rfl,hn.1,?_⟩,?_⟩
 ·refine(hs.push (o5 1)).perm (ad2.swap _ _ _)
 ·rintro p1 a1 n2 n3 w2 ⟨j,b,c,he,hj,hs⟩;cases he
  refine dJ (fun h0=>?_) (fun h0=>?_)
  ·refine kA hs fun w hs=>?_;simp only[nz,ady,adz];refine bR (k:=0) hs rfl rfl ?_;simp only[nz,ady,adz];refine Bt hs fun w hs=>?_;simp only[nz,ady,adz];refine iV (k:=0) hs rfl rfl ?_;simp only[nz,ady,adz];refine ic hs fun r w hs=>?_;refine iV (k:=1) hs rfl rfl ?_;refine qb (k:=2) (ys:=[.string (kv 128)]) hs rfl (BB (k':=0) hs rfl rfl fun j v hj=>by rw[adE];exact hj) (by simp) rfl (by omega) (by omega) (by simp[Value.oneCell']) fun b' c' w hs=>?_;simp only[nz,ady,adz] at hs⊢;refine mL (k:=1) hs rfl (adH rfl) rfl fun w hs=>?_;simp only[nz,ady,adz] at hs;have e5:adx.wrap ((j:Int)+1)=((j+1:Nat):Int):=by rw[ah (by omega)];omega
   rw[e5];refine⟨⟨j+1,b',c',rfl,by omega,?_⟩,by omega⟩;have e6:(adQ j (kv 128)).map Value.string++[.string (kv 128)]=(adQ (j+1) (kv 128)).map .string:=by
    rw[List.replicate_succ'];simp
   rw[e6] at hs;exact hs.drop
  ·have FX:(j:Int)=min2 (max2 n 0) 4096:=by omega
   have hj3:j=(min2 (max2 n 0) 4096).toNat:=by omega
   have gN:St W w2 (pt d [.l b j c,.l none 0 0,.i 0,.i 0]::own b j c 1 ((adQ j (kv 128)).map .string)::own none 0 0 2 (jZ [])::L):=
    (hs.push (A:=own none 0 0 2 (jZ [])) (o5 2)).perm ((ad2.swap _ _ _).trans (ad2.cons _ (ad2.swap _ _ _)))
   have:=qp (L:=fA d (aA.new n)::L) (k:=0) (A:=fA d (aA.new n)) (safe:=adQ j (kv 128)) (later:=[]) (ops:=0) (arm:=0) rfl (by simp) rfl gN;refine hK d w2 ?_;have e7:aA.new n=⟨adQ j (kv 128),[],0,0⟩:=by unfold aA.new;rw[←hj3]
   rw[e7];exact this
end
def lD(l:List (Int×BA))(safe:List BA):(l.foldl aA.put safe).length=safe.length:=by
 induction l generalizing safe with
 |nil=>rfl
 |cons p l ih=>rw[List.foldl_cons,ih];simp[aA.put]
def BO{α:Type}{l:List α}{j:Nat}{p:α}(h:l[j]?=some p):l.take (j+1)=l.take j++[p]:=by
 obtain⟨hj,he⟩:=adC.1 h;rw[aeu hj,he]
section
variable {W w:World} {L:LH} {k d:Nat} {D:aA}
def qy{K:VK}(h:St W w L)(hk:L[k]?=some (fA d D))(ik:D.Ok)(hK:∀w',St W w' (L.set k (fA d D.sync.1))→K (.i D.sync.2) w'):fO (some ⟨d,0,none⟩) K w:=by
 have hl:=ik.less;unfold fO;simp only[nz,ady,adz];refine td h hk fun w h=>?_;simp only[nz,ady,adz];refine pO (fun hf=>?_) (fun hf=>?_)
 ·have e:D.sync=(D.tick,8):=by simp[aA.sync,hf]
  rw[e] at hK;exact hK w h
 have e:D.sync=({D.tick with safe:=D.later.foldl aA.put D.safe,later:=[]},0):=by simp[aA.sync,hf]
 rw[e] at hK;have rj:(L.set k (fA d D.tick))[k]?=some (fA d D.tick):=iF hk;obtain⟨sb,sc,lb,lc,hs⟩:=rS h rj;refine bR (k:=0) hs rfl rfl ?_;simp only[nz,ady,adz];refine⟨fun us w'=>∃j:Nat,us=[.i 0,.l lb D.later.length lc,.i D.later.length,.i j]∧j≤D.later.length∧
    St W w' (pt d (uw sb lb D.safe.length sc D.later.length lc D.tick.ops D.tick.arm)::own sb D.safe.length sc 1 (((D.later.take j).foldl aA.put D.safe).map .string)::own lb D.later.length lc 2 (jZ D.later)::(L.set k (fA d D.tick)).eraseIdx k),
  fun us _=>match us with|[_,_,_,.int _ j]=>D.later.length-j.toNat|_=>0,⟨0,rfl,adK _,hs⟩,?_⟩
 rintro n1 uF qg uE n2 n3 w2 ⟨j,he,hj,hs⟩;cases he
 refine dJ (fun h0=>?_) (fun h0=>?_)
 ·have a8:j<D.later.length:=by omega
  obtain⟨p,hp⟩:∃p,D.later[j]?=some p:=⟨D.later[j],by simp[a8]⟩;obtain⟨T1,FN⟩:=tN _ _ _ hp;obtain⟨OW,hpa,hpb⟩:=ik.later p (ad3 hp);refine sA (k:=2) hs rfl (by omega) fun r hr=>?_;subst hr;refine DO (k:=2) (ys:=[.i p.1,.string p.2]) hs rfl rfl (fun i v hi=>?_) ?_
  ·rw[adB]
   match i,hi with
   |0,hi=>simp at hi;subst hi;exact T1
   |1,hi=>simp at hi;subst hi;exact FN
  refine ic hs fun r1 w hs=>?_;simp only[nz,ady,adz];refine⟨rfl,iU (k:=0) hs rfl (adH rfl) (by simp[Value.oneCell']) fun w hs=>?_⟩;simp only[nz,ady,adz] at hs;refine kA hs fun w hs=>?_;refine bR (k:=1) hs rfl rfl ?_;simp only[nz,ady,adz];refine bR (k:=0) hs rfl rfl ?_;simp only[nz,ady,adz];refine bR (k:=0) hs rfl rfl ?_;simp only[nz,ady,adz];refine sA (k:=2) hs rfl ⟨hpa,hpb⟩ fun r hr=>?_;subst hr;refine Dw (k:=2) hs rfl (by rw[ad1,lD];omega) rfl fun w hs=>?_;simp only[nz,ady,adz] at hs;have e5:adx.wrap ((j:Int)+1)=((j+1:Nat):Int):=by rw[ah (by omega)];omega
  rw[e5];refine⟨⟨j+1,rfl,by omega,?_⟩,by omega⟩;have e6:(((D.later.take j).foldl aA.put D.safe).map Value.string).set (p.1.toNat* 1) (.string p.2)=((D.later.take (j+1)).foldl aA.put D.safe).map .string:=by
   rw[BO hp,List.foldl_append,ae8];simp[aA.put,List.map_set]
  rw[e6] at hs;exact hs.drop
 ·have FX:j=D.later.length:=by omega
  subst FX;refine mL (k:=0) hs rfl (adH rfl) rfl fun w hs=>?_;simp only[nz,ady,adz] at hs;refine hK w ?_;rw[adN] at hs;have qL:=(hs.perm ((ad2.cons _ (ad2.swap _ _ _)).trans (ad2.swap _ _ _))).drop.push (o5 2);have th:=qL.perm ((ad2.swap _ _ _).trans (ad2.cons _ (ad2.swap _ _ _)));have h5:=qp (sb:=sb) (sc:=sc) (lb:=none) (lc:=0) (safe:=D.later.foldl aA.put D.safe) (later:=[]) (ops:=D.tick.ops) (arm:=D.tick.arm) rj (lD _ _).symm rfl th;rw[aeO] at h5;exact h5
def Bi(mask torn c:Int)(safe:List BA)(k:Nat)(p:Int×BA):(aA.pR mask torn c safe k p).length=safe.length:=by
 unfold aA.pR;split
 ·simp
 ·split<;>simp
def crashed(mask torn c:Int)(safe:List BA)(later:List (Int×BA)):Nat→List BA
 |0=>safe
 |j+1=>match later[j]? with
  |some p=>aA.pR mask torn c (crashed mask torn c safe later j) j p
  |none=>crashed mask torn c safe later j
def ju(mask torn c:Int)(safe:List BA)(later:List (Int×BA)):∀j,(crashed mask torn c safe later j).length=safe.length
 |0=>rfl
 |j+1=>by
  simp only[crashed];cases later[j]? with
  |none=>exact ju mask torn c safe later j
  |some p=>simp only[];rw[Bi];exact ju mask torn c safe later j
def wK(mask torn c:Int)(later:List (Int×BA))(safe:List BA):∀(n j:Nat),j+n=later.length→
 aA.rU mask torn c j (later.drop j) (crashed mask torn c safe later j)=crashed mask torn c safe later later.length
 |0,j,h=>by
  have:j=later.length:=by omega
  subst this;simp[aA.rU]
 |n+1,j,h=>by
  have a8:j<later.length:=by omega
  rw[aef a8];simp only[aA.rU];have:=wK mask torn c later safe n (j+1) (by omega);simp only[crashed,adA a8] at this;exact this
end
def Ro(W:World)(b:OA)(n e:Nat)(xs:LV):Prop:=
 xs.length=n* e∧(b=none→n=0)∧∀a,b=some a→∀j v,xs[j]?=some v→W.cell? (a.add j)=some v
def add_add(a:Addr)(m n:Nat):(a.add m).add n=a.add (m+n):=by
 unfold Addr.add;by_cases h1:m=0
 ·subst h1;simp
 ·by_cases h2:n=0
  ·subst h2;simp[h1]
  ·rw[if_neg h1,if_neg h2,if_neg (by omega)];simp;omega
section
variable {W w:World} {L:LH} {b:OA} {n e:Nat} {xs:LV}
def zE{W:World}{a:Addr}{v:Value}(h:W.cell? a=some v):a.block<W.heap.size:=by
 unfold World.cell? at h;cases hb:W.heap[a.block]? with
 |none=>simp[hb] at h
 |some x=>exact(Array.getElem?_eq_some_iff.1 hb).1
def St.old(h:St W w L){a:Addr}(ha:a.block<W.heap.size):w.cell? a=W.cell? a:=h.1.cell ha
def Ro.cell(hr:Ro W b n e xs){a:Addr}(hb:b=some a)(h:St W w L){j:Nat}{v:Value}(hv:xs[j]?=some v):w.cell? (a.add j)=some v:=by
 have h2:=hr.2.2 a hb j v hv;rw[h.old (zE h2)];exact h2
end
def pU(x y:BA):pq x y=decide (x=y):=by
 unfold pq;by_cases h:x=y
 ·subst h;simp
 ·have:x.toList≠y.toList:=by
   rw[ByteArray.toList_eq,ByteArray.toList_eq];intro he;exact h (ByteArray.ext (afc he))
  simp[h,this]
end Go.Sep
namespace Go.Prog
def RH:Nat:=202
def SX:Nat:=5
end Go.Prog
namespace Go.Prog
open Go.Den Go.RowKit
def R5(B b:Nat)(l:List UInt8)(w:World):Prop:=Go.Lib.IsBuilder RH SX B b (Go.Lib.byteCells l) w
def fN(p:OA)(s:BA)(K:VK):WK:=fun w=>∃B b l,p=some ⟨b,0,none⟩∧R5 B b l w∧l.length+s.size≤140737488355328∧B≤w.heap.size∧
 ∀w',R5 B b (l++s.data.toList) w'→Below B w w'→K (.tuple ⟨[.i s.size,.nilIface]⟩) w'
def fN.u:WP:=fun args K=>match args with|[.pointer p,.string s]=>fN p s K|_=>no
def iC(p:OA)(K:VK):WK:=fun w=>∃B b l,p=some ⟨b,0,none⟩∧R5 B b l w∧B≤w.heap.size∧∀w',Below B w w'→K (.string ⟨l.toArray⟩) w'
def iC.u:WP:=fun args K=>match args with|[.pointer p]=>iC p K|_=>no
end Go.Prog
namespace Go.Prog
open Go.Den
abbrev ad(r o:Nat):Addr:=⟨r,o,none⟩
def nN(x y c:Int)(K:VK):WK:=bl ((0≤x∧0≤y)∧0≤c∧c≤1) (K (.tuple ⟨[.u ((x+y+c)%18446744073709551616),.u ((x+y+c)/18446744073709551616)]⟩))
def nN.u:WP:=fun args K=>match args with|[.int .u64 x,.int .u64 y,.int .u64 c]=>nN x y c K|_=>no
def nM(x y c:Int)(K:VK):WK:=bl ((0≤x∧0≤y∧y<18446744073709551616)∧0≤c∧c≤1) (K (.tuple ⟨[.u ((x-y-c)%18446744073709551616),.u (if x<y+c then 1 else 0)]⟩))
def nM.u:WP:=fun args K=>match args with|[.int .u64 x,.int .u64 y,.int .u64 c]=>nM x y c K|_=>no
end Go.Prog
namespace Go.Up
open Go.Sep Go.Den Go.RowKit Go.Prog
def T(W:World)(L:LH)(X:WK):Prop:=∀w,St W w L→X w
class Lc{α:Type}(P:α→HP)(L:LH)(x:outParam α)(f:outParam (α→LH)):Prop where
 at_:∃k:Nat,L[k]?=some (P x)∧∀y,f y=L.set k (P y)
instance Lc.head{α:Type}{P:α→HP}{x:α}{L:LH}:Lc P (P x::L) x (fun y=>P y::L):=⟨0,rfl,fun _=>rfl⟩
instance Lc.tail{α:Type}{P:α→HP}{A:HP}{x:α}{L:LH}{f:α→LH}[h:Lc P L x f]:Lc P (A::L) x (fun y=>A::f y):=by
 obtain⟨k,h1,h2⟩:=h.at_;exact⟨k+1,h1,fun y=>by rw[h2];rfl⟩
def Lc.same{α:Type}{P:α→HP}{L:LH}{x:α}{f:α→LH}(h:Lc P L x f):f x=L:=by
 obtain⟨k,h1,h2⟩:=h.at_;rw[h2];exact kE h1
theorem Lc.next{α:Type}{P:α→HP}{L:LH}{x:α}{f:α→LH}(h:Lc P L x f)(y:α):Lc P (f y) y f:=by
 obtain⟨k,h1,h2⟩:=h.at_;exact⟨k,by rw[h2];exact iF h1,fun z=>by rw[h2,h2,aeO]⟩
class Sub(cs:LV)(o n:Nat)(xs:outParam (LV)):Prop where
 is:xs.length=n∧∀j v,xs[j]?=some v→cs[o+j]?=some v
class Wr(cs:LV)(o:Nat)(xs:LV)(ds:outParam (LV)):Prop where
 is:over cs o xs=ds∧o+xs.length≤cs.length∧∀v∈xs,v.oneCell'=true
class One(v:Value):Prop where
 is:v.oneCell'=true
instance{k:IntKind}{n:Int}:One (.int k n):=⟨rfl⟩
instance{b:OA}{n c:Nat}:One (.l b n c):=⟨rfl⟩
instance Wr.head{a v:Value}{cs:LV}[h:One v]:Wr (a::cs) 0 [v] (v::cs):=⟨by simp[over],by simp,fun u hu=>by simp at hu;rw[hu];exact h.is⟩
instance Wr.tail{a v:Value}{cs ds:LV}{o:Nat}[h:Wr cs o [v] ds]:Wr (a::cs) (o+1) [v] (a::ds):=by
 obtain⟨h1,h2,h3⟩:=h.is;refine⟨?_,by simp at h2⊢;omega,h3⟩;rw[←h1];simp only[over,aeZ,List.take_succ_cons,aeN,Nat.add_right_comm o 1 1,List.drop_succ_cons]
section
variable {W:World} {L M:LH} {X Y:WK}
def T.at{w:World}(h:T W L X)(hs:St W w L):X w:=h w hs
def T.drop{A:HP}(h:T W L X):T W (A::L) X:=fun w hs=>h w hs.drop
def T.perm(h:T W L X)(p:M.Perm L):T W M X:=fun w hs=>h w (hs.perm p)
def T.fin{K:VK}{v v':Value}(h:T W L (K v))(e:v'=v):T W L (K v'):=e▸h
def qD{cs:LV}{F:Nat→WK}(h:∀r,T W (pt r cs::L) (F r)):T W L (mk cs F):=fun w hs=>ic hs fun r w' h'=>h r w' h'
def u2(h:T W L X):T W L (tick X):=fun w hs=>kA hs fun w' h'=>h w' h'
def c9{p:Prop}(hp:p)(h:T W L X):T W L (bl p X):=fun w hs=>⟨hp,h w hs⟩
def Mn(h:T W L X):T W L (bl True X):=c9 trivial h
def S9{a b:Nat}(e:a=b)(h:T W L X):T W L (bl (a=b) X):=c9 e h
def Ta{a b:Nat}{q:Prop}(e:a=b)(h:T W L (bl q X)):T W L (bl (a=b∧q) X):=fun w hs=>⟨⟨e,(h w hs).1⟩,(h w hs).2⟩
def az{b:Bool}(h1:b=true→T W L X)(h2:b=false→T W L Y):T W L (br b X Y):=fun w hs=>pO (fun e=>h1 e w hs) (fun e=>h2 e w hs)
def lh{b:Bool}(e:b=true)(h:T W L X):T W L (br b X Y):=by subst e;exact h
def fx{b:Bool}(e:b=false)(h:T W L Y):T W L (br b X Y):=by subst e;exact h
def tw(h:T W L X):T W L (br true X Y):=h
def q8(h:T W L Y):T W L (br false X Y):=h
def Aa(h:T W L Y):T W L (br (!true) X Y):=h
def tz{α:Type}{a:α}(h:T W L Y):T W L (br (Option.isNone (some a)) X Y):=h
def Tb{α:Type}{a:α}(h:T W L X):T W L (br (!(Option.isNone (some a))) X Y):=h
def yS{a:Addr}{K:Addr→WK}(h:T W L (K a)):T W L (nn (some a) K):=h
def Tc(h1:T W L X)(h2:T W L Y):T W L (both X Y):=fun w hs=>⟨h1 w hs,h2 w hs⟩
def na{k:IntKind}{K:Int→WK}{n:Int}(h:T W L (K n)):T W L (xI k K (.int k n)):=fun w hs=>by rw[RB];exact h w hs
def qC{K:Bool→WK}{n:Bool}(h:T W L (K n)):T W L (xB K (.bool n)):=fun w hs=>by rw[L1];exact h w hs
def Pr{K:BA→WK}{n:BA}(h:T W L (K n)):T W L (xS K (.string n)):=fun w hs=>by rw[L0];exact h w hs
def u1{K:OA→WK}{n:OA}(h:T W L (K n)):T W L (xP K (.p n)):=fun w hs=>by rw[Rz];exact h w hs
def tt{K:OA→Nat→Nat→WK}{b:OA}{n c:Nat}(h:T W L (K b n c)):T W L (xL K (.l b n c)):=fun w hs=>by rw[RA];exact h w hs
def xa{n:Nat}{K:LV→WK}{cs:LV}(hn:cs.length=n)(h:T W L (K cs)):T W L (xA n K (.agg ⟨cs⟩)):=fun w hs=>by rw[sV];exact⟨hn,h w hs⟩
def yR(h:T W L X):T W L (x0 X (.tuple ⟨[]⟩)):=fun w hs=>by rw[RE];exact h w hs
def Ps{K:Value→Value→WK}{a b:Value}(h:T W L (K a b)):T W L (x2 K (.tuple ⟨[a,b]⟩)):=fun w hs=>by rw[RD];exact h w hs
def S4{K:Value→Value→Value→WK}{a b c:Value}(h:T W L (K a b c)):T W L (x3 K (.tuple ⟨[a,b,c]⟩)):=fun w hs=>by rw[RC];exact h w hs
variable {r o n:Nat} {cs xs ds:LV} {f:LV→LH} {v:Value}
def kB{K:VK}[i:Lc (pt r) L cs f](hv:cs[o]?=some v)(h:T W L (K v)):T W L (ld ⟨r,o,none⟩ K):=fun w hs=>
 let⟨_,hk,_⟩:=i.at_;bR hs hk hv (h w hs)
def V2{K:LV→WK}[i:Lc (pt r) L cs f][s:Sub cs o n xs](h:T W L (K xs)):T W L (aj ⟨r,o,none⟩ n K):=fun w hs=>
 let⟨_,hk,_⟩:=i.at_;iG hs hk s.is.1 s.is.2 (h w hs)
def Zv[i:Lc (pt r) L cs f][s:Wr cs o [v] ds](h:T W (f ds) X):T W L (st ⟨r,o,none⟩ v X):=fun w hs=>by
 obtain⟨k,hk,e⟩:=i.at_;obtain⟨s1,s2,s3⟩:=s.is;refine mL hs hk (by have:=s2;simp at this;omega) (s3 v (by simp)) fun w' h'=>h w' ?_;rw[e,←s1];have:over cs o [v]=cs.set o v:=by
  apply aeV;intro j;rw[wc s2,ad7];simp only[adW,ad6] at s2⊢;by_cases h1:j<o
  ·rw[if_pos h1,if_neg (by omega)]
  ·by_cases h2:o=j
   ·subst h2;rw[if_neg h1,if_pos (by omega),if_pos rfl,if_pos (by omega)];simp
   ·rw[if_neg h1,if_neg (by omega),if_neg h2]
 rw[this];exact h'
def V1[i:Lc (pt r) L cs f][s:Wr cs o xs ds](h:T W (f ds) X):T W L (iN ⟨r,o,none⟩ xs X):=fun w hs=>by
 obtain⟨k,hk,e⟩:=i.at_;obtain⟨s1,s2,s3⟩:=s.is;refine iU hs hk s2 s3 fun w' h'=>h w' ?_;rw[e,←s1];exact h'
def zZ{k:Nat}{K:VK}(h:T W L (ld ⟨r,k,none⟩ K)):T W L (ld (Addr.add ⟨r,0,none⟩ k) K):=by rw[ft,adE];exact h
def Mj{k:Nat}{K:VK}(h:T W L (ld ⟨r,o+k,none⟩ K)):T W L (ld (Addr.add ⟨r,o,none⟩ k) K):=by rw[ft];exact h
def Pv{k:Nat}{K:LV→WK}(h:T W L (aj ⟨r,k,none⟩ n K)):T W L (aj (Addr.add ⟨r,0,none⟩ k) n K):=by rw[ft,adE];exact h
def S6{k:Nat}{K:LV→WK}(h:T W L (aj ⟨r,o+k,none⟩ n K)):T W L (aj (Addr.add ⟨r,o,none⟩ k) n K):=by rw[ft];exact h
def S5{k:Nat}(h:T W L (st ⟨r,k,none⟩ v X)):T W L (st (Addr.add ⟨r,0,none⟩ k) v X):=by rw[ft,adE];exact h
def IC{k:Nat}(h:T W L (st ⟨r,o+k,none⟩ v X)):T W L (st (Addr.add ⟨r,o,none⟩ k) v X):=by rw[ft];exact h
def Pt{k:Nat}(h:T W L (iN ⟨r,k,none⟩ xs X)):T W L (iN (Addr.add ⟨r,0,none⟩ k) xs X):=by rw[ft,adE];exact h
def S8{k:Nat}(h:T W L (kp ⟨r,k,none⟩ xs X)):T W L (kp (Addr.add ⟨r,0,none⟩ k) xs X):=by rw[ft,adE];exact h
def tv[i:Lc (pt r) L cs f](hv:cs[o]?=some v)(h:T W L X):T W L (kp ⟨r,o,none⟩ [v] X):=fun w hs=>
 let⟨_,hk,_⟩:=i.at_;iV hs hk hv (h w hs)
def Mk[i:Lc (pt r) L cs f][s:Sub cs o n xs](h:T W L X):T W L (kp ⟨r,o,none⟩ xs X):=fun w hs=>
 let⟨_,hk,_⟩:=i.at_;Jh hs hk s.is.2 (h w hs)
def IE{a:Addr}{K:LV→WK}(hg:xs.length=n∧∀j v,xs[j]?=some v→W.cell? (a.add j)=some v)(h:T W L (K xs)):T W L (aj a n K):=fun w hs=>
 ⟨xs,hg.1,fun j v hj=>by
  have:=hg.2 j v hj
  rw[hs.old (zE this)];exact this,h w hs⟩
def IG{zs ys:LV}{K:Bool→WK}(h1:lM zs xs=true)(h2:lM zs ys=true)(h:T W L (K (gT xs ys))):T W L (oa zs xs ys K):=fun w hs=>⟨⟨h1,h2⟩,h w hs⟩
end
def nm(n:Nat):LV:=[.u ((n/18446744073709551616:Nat):Int),.u ((n%18446744073709551616:Nat):Int)]
instance{n:Nat}:Sub (nm n) 0 2 (nm n):=⟨rfl,fun j v h=>by rw[adE];exact h⟩
instance{cs:LV}{a b:Value}:Sub (a::b::cs) 0 2 [a,b]:=⟨rfl,fun j v h=>by
 rw[adE]
 match j with
 |0=>exact h
 |1=>exact h
 |j+2=>simp at h⟩
def Ss(a b:Nat):gT (nm a) (nm b)=decide (a=b):=by
 simp only[nm,gT,vm,Bool.and_true];by_cases h:a=b
 ·subst h;simp
 ·rw[decide_eq_false h,Bool.and_eq_false_iff];by_cases h1:a/18446744073709551616=b/18446744073709551616
  ·right
   have: ¬((a%18446744073709551616:Nat):Int)=((b%18446744073709551616:Nat):Int):=by omega
   simpa using this
  ·left
   have: ¬((a/18446744073709551616:Nat):Int)=((b/18446744073709551616:Nat):Int):=by omega
   simpa using this
def RL{W:World}{L:LH}{a b:Nat}{K:Bool→WK}(h:T W L (K (decide (a=b)))):T W L (oa [.u 0,.u 0] (nm a) (nm b) K):=IG rfl rfl (by rw[Ss];exact h)
def V5{W:World}{L:LH}{X:WK}{r o m:Nat}{cs:LV}{f:LV→LH}[i:Lc (pt r) L cs f][s:Sub cs o 2 (nm m)](h:T W L X):T W L (kp ⟨r,o,none⟩ (nm m) X):=Mk (n:=2) h
def V7{W:World}{L:LH}{a:Nat}{K:Bool→WK}(h:T W L (K (decide (a=0)))):T W L (oa [.u 0,.u 0] (nm a) [.u 0,.u 0] K):=RL (b:=0) h
class Wk(L:LH)(X:WK)(L':outParam (LH))(Y:outParam WK):Prop where
 go:∀W,T W L' Y→T W L X
def ww{W:World}{L L':LH}{X Y:WK}[i:Wk L X L' Y](h:T W L' Y):T W L X:=i.go W h
class VV(a b:Nat):Prop where
 is:a=b
instance{a:Nat}:VV a a:=⟨rfl⟩
class Eqv(a b:Value):Prop where
 is:a=b
instance{a:Value}:Eqv a a:=⟨rfl⟩
class Ln(cs:LV)(n:outParam Nat):Prop where
 is:cs.length=n
instance:Ln [] 0:=⟨rfl⟩
instance{a:Value}{l:LV}{n:Nat}[h:Ln l n]:Ln (a::l) (n+1):=⟨by rw[adW,h.is]⟩
instance{a b:LV}{n m:Nat}[h:Ln a n][g:Ln b m]:Ln (a++b) (n+m):=⟨by rw[adD,h.is,g.is]⟩
instance{cs:LV}{k n:Nat}[h:Ln cs k][e:VV k n]:VV cs.length n:=⟨by rw[h.is,e.is]⟩
instance{n:Nat}:Ln (nm n) 2:=⟨rfl⟩
section
variable {L:LH} {X Y:WK} {r o n:Nat} {cs xs ds:LV} {f:LV→LH} {v:Value}
instance{k:IntKind}{K:Int→WK}{n:Int}:Wk L (xI k K (.int k n)) L (K n):=⟨fun _ h=>na h⟩
instance{K:Bool→WK}{n:Bool}:Wk L (xB K (.bool n)) L (K n):=⟨fun _ h=>qC h⟩
instance{K:BA→WK}{n:BA}:Wk L (xS K (.string n)) L (K n):=⟨fun _ h=>Pr h⟩
instance{K:OA→WK}{n:OA}:Wk L (xP K (.p n)) L (K n):=⟨fun _ h=>u1 h⟩
instance{K:OA→Nat→Nat→WK}{b:OA}{n c:Nat}:Wk L (xL K (.l b n c)) L (K b n c):=⟨fun _ h=>tt h⟩
instance:Wk L (x0 X (.tuple ⟨[]⟩)) L X:=⟨fun _ h=>yR h⟩
instance{K:Value→Value→WK}{a b:Value}:Wk L (x2 K (.tuple ⟨[a,b]⟩)) L (K a b):=⟨fun _ h=>Ps h⟩
instance{K:Value→Value→Value→WK}{a b c:Value}:Wk L (x3 K (.tuple ⟨[a,b,c]⟩)) L (K a b c):=⟨fun _ h=>S4 h⟩
instance:Wk L (bl True X) L X:=⟨fun _ h=>Mn h⟩
instance{a b:Nat}[i:VV a b]:Wk L (bl (a=b) X) L X:=⟨fun _ h=>S9 i.is h⟩
instance{a b:Nat}{q:Prop}[i:VV a b]:Wk L (bl (a=b∧q) X) L (bl q X):=⟨fun _ h=>Ta i.is h⟩
instance:Wk L (br true X Y) L X:=⟨fun _ h=>h⟩
instance:Wk L (br false X Y) L Y:=⟨fun _ h=>h⟩
instance:Wk L (br (!true) X Y) L Y:=⟨fun _ h=>h⟩
instance:Wk L (br (!false) X Y) L X:=⟨fun _ h=>h⟩
instance{α:Type}{a:α}:Wk L (br (Option.isNone (some a)) X Y) L Y:=⟨fun _ h=>h⟩
instance{α:Type}{a:α}:Wk L (br (!(Option.isNone (some a))) X Y) L X:=⟨fun _ h=>h⟩
instance{a:Addr}{K:Addr→WK}:Wk L (nn (some a) K) L (K a):=⟨fun _ h=>h⟩
instance:Wk L (tick X) L X:=⟨fun _ h=>u2 h⟩
instance{k:Nat}{K:VK}:Wk L (ld (Addr.add ⟨r,0,none⟩ k) K) L (ld ⟨r,k,none⟩ K):=⟨fun _ h=>zZ h⟩
instance{k:Nat}{K:LV→WK}:Wk L (aj (Addr.add ⟨r,0,none⟩ k) n K) L (aj ⟨r,k,none⟩ n K):=⟨fun _ h=>Pv h⟩
instance{k:Nat}:Wk L (st (Addr.add ⟨r,0,none⟩ k) v X) L (st ⟨r,k,none⟩ v X):=⟨fun _ h=>S5 h⟩
instance{k:Nat}:Wk L (iN (Addr.add ⟨r,0,none⟩ k) xs X) L (iN ⟨r,k,none⟩ xs X):=⟨fun _ h=>Pt h⟩
instance{k:Nat}:Wk L (kp (Addr.add ⟨r,0,none⟩ k) xs X) L (kp ⟨r,k,none⟩ xs X):=⟨fun _ h=>S8 h⟩
instance{K:LV→WK}[i:Lc (pt r) L cs f][s:Sub cs o n xs]:Wk L (aj ⟨r,o,none⟩ n K) L (K xs):=⟨fun _ h=>V2 h⟩
instance[i:Lc (pt r) L cs f][s:Wr cs o [v] ds]:Wk L (st ⟨r,o,none⟩ v X) (f ds) X:=⟨fun _ h=>Zv h⟩
instance[i:Lc (pt r) L cs f][s:Wr cs o xs ds]:Wk L (iN ⟨r,o,none⟩ xs X) (f ds) X:=⟨fun _ h=>V1 h⟩
instance{m:Nat}[i:Lc (pt r) L cs f][s:Sub cs o 2 (nm m)]:Wk L (kp ⟨r,o,none⟩ (nm m) X) L X:=⟨fun _ h=>V5 h⟩
instance{a b:Nat}{K:Bool→WK}:Wk L (oa [.u 0,.u 0] (nm a) (nm b) K) L (K (decide (a=b))):=⟨fun _ h=>RL h⟩
instance{a:Nat}{K:Bool→WK}:Wk L (oa [.u 0,.u 0] (nm a) [.u 0,.u 0] K) L (K (decide (a=0))):=⟨fun _ h=>V7 h⟩
end
class Gt(cs:LV)(o:Nat)(v:outParam Value):Prop where
 is:cs[o]?=some v
instance{a:Value}{l:LV}:Gt (a::l) 0 a:=⟨rfl⟩
instance{a v:Value}{l:LV}{o:Nat}[h:Gt l o v]:Gt (a::l) (o+1) v:=⟨by rw[adR];exact h.is⟩
instance{n:Nat}:Gt (nm n) 0 (.u (n/18446744073709551616:Nat)):=⟨rfl⟩
instance{n:Nat}:Gt (nm n) 1 (.u (n%18446744073709551616:Nat)):=⟨rfl⟩
class Lv(L:LH)(r o:Nat)(v:outParam Value):Prop where
 ld:∀{W:World} {K:VK},T W L (K v)→T W L (ld ⟨r,o,none⟩ K)
 kp:∀{W:World} {X:WK},T W L X→T W L (kp ⟨r,o,none⟩ [v] X)
instance{L:LH}{r o:Nat}{v:Value}{cs:LV}{f:LV→LH}[i:Lc (pt r) L cs f][g:Gt cs o v]:Lv L r o v:=⟨fun h=>kB (i:=i) g.is h,fun h=>tv (i:=i) g.is h⟩
section
variable {L:LH} {X A B:WK} {r o n:Nat} {v:Value} {K:VK} {cs:LV}
instance[i:Lv L r o v]:Wk L (ld ⟨r,o,none⟩ K) L (K v):=⟨fun _ h=>i.ld h⟩
instance{u:Value}[i:Lv L r o u][e:Eqv u v]:Wk L (kp ⟨r,o,none⟩ [v] X) L X:=⟨fun _ h=>by rw[←e.is];exact i.kp h⟩
instance{K:LV→WK}{k:Nat}[h:Ln cs k][e:VV k n]:Wk L (xA n K (.agg ⟨cs⟩)) L (K cs):=⟨fun _ g=>xa (by rw[h.is,e.is]) g⟩
end
class Wm(X:WK)(cs:outParam (LV))(F:outParam (Nat→WK)):Prop where
 is:X=mk cs F
instance{cs:LV}{F:Nat→WK}:Wm (mk cs F) cs F:=⟨rfl⟩
def wm{W:World}{L:LH}{X:WK}{cs:LV}{F:Nat→WK}[i:Wm X cs F](h:∀r,T W (pt r cs::L) (F r)):T W L X:=by rw[i.is];exact qD h
class Wb(X:WK)(A B:outParam WK):Prop where
 is:X=both A B
instance{A B:WK}:Wb (both A B) A B:=⟨rfl⟩
def wb{W:World}{L:LH}{X A B:WK}[i:Wb X A B](h:T W L A)(g:T W L B):T W L X:=by rw[i.is];exact Tc h g
class Has(R L:LH):Prop where
 sub:∀{W w:World},St W w L→St W w R
instance Has.refl{R:LH}:Has R R:=⟨fun h=>h⟩
instance(priority:=low) Has.tail{R L:LH}{A:HP}[h:Has R L]:Has R (A::L):=⟨fun hs=>h.sub hs.drop⟩
instance{R L:LH}[h:Has R L]:Has ([]++R) L:=⟨fun hs=>h.sub hs⟩
def T.dp{W:World}{M L:LH}{X:WK}[i:Has M L](h:T W M X):T W L X:=fun w hs=>h w (i.sub hs)
end Go.Up
namespace Go.Prog
open Go.Den
def l7(a:BA)(K:VK):WK:=tick (br (decide ((adx.wrap ((a.size:Int) -4))≥0)) (kD a none (some (adx.wrap ((a.size:Int) -4))) fun b=>kD a (some (adx.wrap ((a.size:Int) -4))) none fun c=>mU 0 b (xI .u32 fun d=>kM d (xS fun e=>K (.bool (pq e c))))) (K (.bool false)))
def l7.u:WP|[.string a],K=>l7 a K|_,_=>no
def fW(h:BA)(i:Int)(K:VK):WK:=(fun j=>∃(c:LV→World→Prop)(e:LV→World→Nat),c [.string h,.string .empty] j∧∀(a:BA)(b:BA)(d:World),c [.string a,.string b] d→(br (decide ((a.size:Int)>0)) (uQ a 0 fun k=>br ((k.toNat:Int)==i) (kD a (some 1) none fun f=>(fun g=>c [.string f,.string b] g∧e [.string f,.string b] g<e [.string a,.string b] d)) (K (.string a))) (K (.string a))) d)
def fW.u:WP|[.string a,.int .u8 b],K=>fW a b K|_,_=>no
def fI(h:BA)(i:Int)(K:VK):WK:=(fun j=>∃(c:LV→World→Prop)(e:LV→World→Nat),c [.string h,.string .empty] j∧∀(a:BA)(b:BA)(d:World),c [.string a,.string b] d→(br (decide ((a.size:Int)>0)) (uQ a (adx.wrap ((a.size:Int) -1)) fun k=>br ((k.toNat:Int)==i) (kD a none (some (adx.wrap ((a.size:Int) -1))) fun f=>(fun g=>c [.string f,.string b] g∧e [.string f,.string b] g<e [.string a,.string b] d)) (K (.string a))) (K (.string a))) d)
def fI.u:WP|[.string a,.int .u8 b],K=>fI a b K|_,_=>no
def dB.j2(K:VK):WK:=no
def dB.j3(K:VK)(a b:BA)(c:Bool):WK:=br c (tick (uQ a 0 fun d=>uQ a 0 fun e=>fI b (d.toNat:Int) (xS fun f=>fW f (e.toNat:Int) (xS fun g=>K (.string g))))) (dB.j2 K)
def dB.j1(K:VK)(b a:BA)(c:Bool):WK:=br c (K (.string b)) (br ((a.size:Int)==1) (uQ a 0 fun d=>dB.j3 K a b (decide ((d.toNat:Int)<128))) (dB.j3 K a b false))
def dB(a b:BA)(K:VK):WK:=br (pq a (⟨#[]⟩:BA)) (dB.j1 K a b true) (dB.j1 K a b (pq b (⟨#[]⟩:BA)))
def dB.u:WP|[.string a,.string b],K=>dB a b K|_,_=>no
def ij.j1(K:VK)(a:Nat)(g:BA)(h:Bool):WK:=br h (bl True (bl (3=3) (iN (⟨a,0,none⟩:Addr) [.i 0,.i 0,.string .empty] (aj (⟨a,0,none⟩:Addr) 3 fun j=>K (.tuple ⟨[.agg ⟨j⟩,.bool false]⟩))))) (jV g (xP fun c=>ao c 8 (xI .i64 fun k=>ao c 2 (xI .i64 fun l=>bl (1=1∧(1=1∧True)) (mk [.i 0,.i 0,.string .empty] fun b=>bl (3=3) (iN (⟨b,0,none⟩:Addr) [.i k,.i l,.string .empty] (ao c 2 (xI .i64 fun e=>br (decide (e>104)) (bl True (bl (3=3) (iN (⟨a,0,none⟩:Addr) [.i 0,.i 0,.string .empty] (aj (⟨a,0,none⟩:Addr) 3 fun m=>K (.tuple ⟨[.agg ⟨m⟩,.bool false]⟩))))) (cb c e (xS fun n=>st ((⟨b,0,none⟩:Addr).add 2) (.string n) (cb c (adx.wrap (104-e)) (xS fun o=>cb c 4 (xS fun x=>tick (ld ((⟨b,0,none⟩:Addr).add 0) (xI .i64 fun d=>ao c 8 (xI .i64 fun p=>kp ((⟨b,0,none⟩:Addr).add 0) [.i d] (br (p !=d) (bl True (bl (3=3) (iN (⟨a,0,none⟩:Addr) [.i 0,.i 0,.string .empty] (aj (⟨a,0,none⟩:Addr) 3 fun q=>K (.tuple ⟨[.agg ⟨q⟩,.bool false]⟩))))) (dB o (⟨#[0]⟩:BA) (xS fun r=>kp ((⟨b,0,none⟩:Addr).add 0) [.i d] (br (!(pq r (⟨#[]⟩:BA))) (bl True (bl (3=3) (iN (⟨a,0,none⟩:Addr) [.i 0,.i 0,.string .empty] (aj (⟨a,0,none⟩:Addr) 3 fun s=>K (.tuple ⟨[.agg ⟨s⟩,.bool false]⟩))))) (aj (⟨b,0,none⟩:Addr) 3 fun t=>mK t (xB fun u=>kp ((⟨b,0,none⟩:Addr).add 0) [.i d] (br (!u) (bl True (bl (3=3) (iN (⟨a,0,none⟩:Addr) [.i 0,.i 0,.string .empty] (aj (⟨a,0,none⟩:Addr) 3 fun v=>K (.tuple ⟨[.agg ⟨v⟩,.bool false]⟩))))) (aj (⟨b,0,none⟩:Addr) 3 fun f=>bl (f.length=3) (iN (⟨a,0,none⟩:Addr) f (aj (⟨a,0,none⟩:Addr) 3 fun w=>K (.tuple ⟨[.agg ⟨w⟩,.bool true]⟩)))))))))))))))))))))))))))
def ij(a:BA)(K:VK):WK:=mk [.i 0,.i 0,.string .empty] fun b=>br ((a.size:Int)!=128) (ij.j1 K b a true) (kD a none (some 120) fun c=>l7 c (xB fun d=>ij.j1 K b a (!d)))
def ij.u:WP|[.string a],K=>ij a K|_,_=>no
def fp.j1(K:VK)(j:Int)(o:OA)(q r:Int)(s:Bool):WK:=br s (K (.tuple ⟨[.string .empty,.bool false]⟩)) (WC RH [.p none,.l none 0 0] fun t=>iu j (xI .i64 fun u=>(fun v=>∃(g:LV→World→Prop)(k:LV→World→Nat),g [.string .empty,.bool false,.p (some (⟨t,0,none⟩:Addr)),.i u,.i 0] v∧∀(e:BA)(f:Bool)(b:Addr)(c:Int)(a:Int)(h:World),g [.string e,.bool f,.p (some b),.i c,.i a] h→(br (decide (a<c)) (eW o (adx.wrap (q+a)) (x2 fun w x=>(xS fun y=>(xI .i64 fun J=>ij y (x2 fun z A=>(xA 3 fun m=>(xB fun B=>mk [.i 0,.i 0,.string .empty] fun d=>bl (m.length=3) (iN (⟨d,0,none⟩:Addr) m (br (!B) (K (.tuple ⟨[.string .empty,.bool false]⟩)) (ld ((⟨d,0,none⟩:Addr).add 0) (xI .i64 fun C=>br (C !=r) (K (.tuple ⟨[.string .empty,.bool false]⟩)) (ld ((⟨d,0,none⟩:Addr).add 1) (xI .i64 fun D=>br (D !=a) (K (.tuple ⟨[.string .empty,.bool false]⟩)) (ld ((⟨d,0,none⟩:Addr).add 2) (xS fun E=>br ((E.size:Int)!=(min2 (adx.wrap (j-(adx.wrap (a* 104)))) 104)) (K (.tuple ⟨[.string .empty,.bool false]⟩)) (ld ((⟨d,0,none⟩:Addr).add 2) (xS fun F=>fN (some b) F (x2 fun G H=>(xI .i64 fun M=>(fun O=>(fun n=>g [.string e,.bool f,.p (some b),.i c,.i (adx.wrap (a+1))] n∧k [.string e,.bool f,.p (some b),.i c,.i (adx.wrap (a+1))] n<k [.string e,.bool f,.p (some b),.i c,.i a] h)) H) G)))))))))))) A) z)) x) w)) (iC (some b) (xS fun I=>K (.tuple ⟨[.string I,.bool true]⟩)))) h)))
def fp(c:OA)(a e d b:Int)(K:VK):WK:=br (decide (a<0)) (fp.j1 K b c a d true) (cu c (xI .i64 fun f=>br (decide (e>f)) (fp.j1 K b c a d true) (br (decide (a>e)) (fp.j1 K b c a d true) (br (decide (b<0)) (fp.j1 K b c a d true) (br (decide (b>425984)) (fp.j1 K b c a d true) (iu b (xI .i64 fun g=>fp.j1 K b c a d (decide (g>(adx.wrap (e-a)))))))))))
def fp.u:WP|[.pointer a,.int .i64 b,.int .i64 c,.int .i64 d,.int .i64 e],K=>fp a b c d e K|_,_=>no
def nw.j1(K:VK)(a:Nat)(b:Int)(c:Bool):WK:=br c (bl True (bl (5=5) (iN (⟨a,0,none⟩:Addr) [.i 0,.i 0,.i 0,.i 0,.i 0] (aj (⟨a,0,none⟩:Addr) 5 fun d=>K (.tuple ⟨[.agg ⟨d⟩,.i 1]⟩))))) (bl ((5:Int)≠0) (bl (1=1∧(1=1∧(1=1∧(1=1∧(1=1∧True))))) (bl (5=5) (iN (⟨a,0,none⟩:Addr) [.i 2,.i (adx.wrap (2+(adx.wrap ((adx.wrap ((adx.wrap (b-2))* 2)).tdiv (5:Int))))),.i (adx.wrap ((adx.wrap ((adx.wrap (b-2))* 2)).tdiv (5:Int))),.i (adx.wrap (2+(adx.wrap (2* (adx.wrap ((adx.wrap ((adx.wrap (b-2))* 2)).tdiv (5:Int))))))),.i b] (aj (⟨a,0,none⟩:Addr) 5 fun e=>K (.tuple ⟨[.agg ⟨e⟩,.i 0]⟩))))))
def nw(a:Int)(K:VK):WK:=mk [.i 0,.i 0,.i 0,.i 0,.i 0] fun b=>br (decide (a<12)) (nw.j1 K b a true) (nw.j1 K b a (decide (a>4096)))
def nw.u:WP|[.int .i64 a],K=>nw a K|_,_=>no
def jh(b:LV)(c:Int)(K:VK):WK:=mk b fun a=>ld ((⟨a,0,none⟩:Addr).add 0) (xI .i64 fun d=>ld ((⟨a,0,none⟩:Addr).add 1) (xI .i64 fun e=>bl (1=1∧(1=1∧True)) (yq [.i d,.i e] 2 (bG .i64 .and c 1) (xI .i64 fun f=>K (.i f)))))
def jh.u:WP|[.agg ⟨a⟩,.int .i64 b],K=>jh a b K|_,_=>no
def jN(g:LV)(c:OA)(d h:Int)(j:BA)(K:VK):WK:=mk g fun a=>br (c.isNone) (K (.i 2)) (tick (aj (⟨a,0,none⟩:Addr) 5 fun k=>aj (⟨a,0,none⟩:Addr) 5 fun e=>ld ((⟨a,0,none⟩:Addr).add 2) (xI .i64 fun b=>jh k d (xI .i64 fun l=>kp ((⟨a,0,none⟩:Addr).add 2) [.i b] (kp (⟨a,0,none⟩:Addr) e (jh e d (xI .i64 fun m=>kp ((⟨a,0,none⟩:Addr).add 2) [.i b] (ir c l (adx.wrap (m+b)) h j (xI .i64 fun f=>kp ((⟨a,0,none⟩:Addr).add 2) [.i b] (br (f !=0) (K (.i f)) (fO c (xI .i64 fun n=>K (.i n)))))))))))))
def jN.u:WP|[.agg ⟨a⟩,.pointer b,.int .i64 c,.int .i64 d,.string e],K=>jN a b c d e K|_,_=>no
def jO(f:LV)(c:OA)(d g h:Int)(K:VK):WK:=mk f fun a=>br (c.isNone) (K (.tuple ⟨[.string .empty,.bool false]⟩)) (tick (aj (⟨a,0,none⟩:Addr) 5 fun j=>aj (⟨a,0,none⟩:Addr) 5 fun e=>ld ((⟨a,0,none⟩:Addr).add 2) (xI .i64 fun b=>jh j d (xI .i64 fun k=>kp ((⟨a,0,none⟩:Addr).add 2) [.i b] (kp (⟨a,0,none⟩:Addr) e (jh e d (xI .i64 fun l=>kp ((⟨a,0,none⟩:Addr).add 2) [.i b] (fp c k (adx.wrap (l+b)) g h (x2 fun m n=>(xS fun o=>(xB fun p=>kp ((⟨a,0,none⟩:Addr).add 2) [.i b] (K (.tuple ⟨[.string o,.bool p]⟩))) n) m)))))))))
def jO.u:WP|[.agg ⟨a⟩,.pointer b,.int .i64 c,.int .i64 d,.int .i64 e],K=>jO a b c d e K|_,_=>no
def jn(d:LV)(a:Int)(K:VK):WK:=mk d fun b=>tick (br (decide (a≥0)) (ld ((⟨b,0,none⟩:Addr).add 2) (xI .i64 fun c=>iu a (xI .i64 fun e=>kp ((⟨b,0,none⟩:Addr).add 2) [.i c] (K (.bool (decide (e≤c))))))) (K (.bool false)))
def jn.u:WP|[.agg ⟨a⟩,.int .i64 b],K=>jn a b K|_,_=>no
def mS(b:LV)(K:VK):WK:=mk b fun a=>ld ((⟨a,0,none⟩:Addr).add 0) (xI .i64 fun c=>br (decide (c≥1)) (ld ((⟨a,0,none⟩:Addr).add 0) (xI .i64 fun d=>br (decide (d≤1152921504606846976)) (ld ((⟨a,0,none⟩:Addr).add 1) (xI .i64 fun e=>br (decide (e≥1)) (ld ((⟨a,0,none⟩:Addr).add 1) (xI .i64 fun f=>br (decide (f≤1152921504606846976)) (ld ((⟨a,0,none⟩:Addr).add 2) (xI .i64 fun g=>br (decide (g≥0)) (ld ((⟨a,0,none⟩:Addr).add 2) (xI .i64 fun h=>br (decide (h≤425984)) (ld ((⟨a,0,none⟩:Addr).add 3) (xI .i64 fun i=>br (decide (i≥0)) (ld ((⟨a,0,none⟩:Addr).add 3) (xI .i64 fun j=>K (.bool (decide (j≤1152921504606846976))))) (K (.bool false)))) (K (.bool false)))) (K (.bool false)))) (K (.bool false)))) (K (.bool false)))) (K (.bool false)))) (K (.bool false)))
def mS.u:WP|[.agg ⟨a⟩],K=>mS a K|_,_=>no
def mT(m:LV)(K:VK):WK:=mk m fun c=>aj (⟨c,0,none⟩:Addr) 4 fun n=>mS n (xB fun o=>br (!o) (K (.tuple ⟨[.string .empty,.i 1]⟩)) (bl True (mk [.l none 0 0] fun q=>ld ((⟨c,0,none⟩:Addr).add 0) (xI .i64 fun r=>ld ((⟨c,0,none⟩:Addr).add 1) (xI .i64 fun s=>ld ((⟨c,0,none⟩:Addr).add 2) (xI .i64 fun t=>ld ((⟨c,0,none⟩:Addr).add 3) (xI .i64 fun u=>bl (1=1∧(1=1∧(1=1∧(1=1∧True)))) ((fun v=>∃(g:LV→World→Prop)(j:LV→World→Nat),g [.string .empty,.i 0,.p (some (⟨q,0,none⟩:Addr)),.agg ⟨[.i r,.i s,.i t,.i u]⟩,.i 0] v∧∀(e:BA)(f:Int)(a:Addr)(d:LV)(b:Int)(h:World),g [.string e,.i f,.p (some a),.agg ⟨d⟩,.i b] h→(br (decide (b<4)) (yq d 4 b (xI .i64 fun w=>aD (some a) 8 w (x0 ((fun k=>g [.string e,.i f,.p (some a),.agg ⟨d⟩,.i (adx.wrap (b+1))] k∧j [.string e,.i f,.p (some a),.agg ⟨d⟩,.i (adx.wrap (b+1))] k<j [.string e,.i f,.p (some a),.agg ⟨d⟩,.i b] h))))) (bM (some a) (xS fun x=>K (.tuple ⟨[.string x,.i 0]⟩)))) h)))))))))
def mT.u:WP|[.agg ⟨a⟩],K=>mT a K|_,_=>no
def mY(a:OA)(e:Int)(f:LV)(K:VK):WK:=mk f fun b=>aj (⟨b,0,none⟩:Addr) 4 fun g=>mT g (x2 fun h j=>(xS fun k=>(xI .i64 fun c=>br (a.isNone) (K (.i 2)) (br (c !=0) (K (.i c)) (ld ((⟨b,0,none⟩:Addr).add 0) (xI .i64 fun l=>ld ((⟨b,0,none⟩:Addr).add 0) (xI .i64 fun m=>ir a (bG .i64 .and l 1) (adx.wrap ((bG .i64 .and m 1)+1)) e k (xI .i64 fun d=>br (d !=0) (K (.i d)) (fO a (xI .i64 fun n=>K (.i n))))))))) j) h)
def mY.u:WP|[.pointer a,.int .i64 b,.agg ⟨c⟩],K=>mY a b c K|_,_=>no
def gv(a:OA)(K:VK):WK:=br (!(a.isNone)) (nn a fun b=>ld (b.add 1) (xB fun c=>br (!c) (nn a fun d=>ld (d.add 0) (xS fun e=>K (.bool (pq e (⟨#[]⟩:BA))))) (K (.bool false)))) (K (.bool false))
def gv.u:WP|[.pointer a],K=>gv a K|_,_=>no
def nL(e:BA)(K:VK):WK:=mk [.i 0,.i 0,.i 0,.i 0] fun a=>jV e (xP fun b=>ao b 8 (xI .i64 fun f=>ao b 8 (xI .i64 fun g=>ao b 8 (xI .i64 fun h=>ao b 8 (xI .i64 fun j=>bl (1=1∧(1=1∧(1=1∧(1=1∧True)))) (mk [.i 0,.i 0,.i 0,.i 0] fun c=>bl (4=4) (iN (⟨c,0,none⟩:Addr) [.i f,.i g,.i h,.i j] (gv b (xB fun k=>br (!k) (bl True (bl (4=4) (iN (⟨a,0,none⟩:Addr) [.i 0,.i 0,.i 0,.i 0] (aj (⟨a,0,none⟩:Addr) 4 fun l=>K (.tuple ⟨[.agg ⟨l⟩,.bool false]⟩))))) (aj (⟨c,0,none⟩:Addr) 4 fun m=>mS m (xB fun n=>br (!n) (bl True (bl (4=4) (iN (⟨a,0,none⟩:Addr) [.i 0,.i 0,.i 0,.i 0] (aj (⟨a,0,none⟩:Addr) 4 fun o=>K (.tuple ⟨[.agg ⟨o⟩,.bool false]⟩))))) (aj (⟨c,0,none⟩:Addr) 4 fun d=>bl (d.length=4) (iN (⟨a,0,none⟩:Addr) d (aj (⟨a,0,none⟩:Addr) 4 fun p=>K (.tuple ⟨[.agg ⟨p⟩,.bool true]⟩)))))))))))))))
def nL.u:WP|[.string a],K=>nL a K|_,_=>no
def kd.j1(K:VK)(a e:Nat)(f:Int)(g:Bool):WK:=br g (bl True (bl (4=4) (iN (⟨a,0,none⟩:Addr) [.i 0,.i 0,.i 0,.i 0] (aj (⟨a,0,none⟩:Addr) 4 fun h=>K (.tuple ⟨[.agg ⟨h⟩,.bool false]⟩))))) (ld ((⟨e,0,none⟩:Addr).add 2) (xS fun j=>nL j (x2 fun k l=>(xA 4 fun c=>(xB fun m=>mk [.i 0,.i 0,.i 0,.i 0] fun b=>bl (c.length=4) (iN (⟨b,0,none⟩:Addr) c (br (!m) (bl True (bl (4=4) (iN (⟨a,0,none⟩:Addr) [.i 0,.i 0,.i 0,.i 0] (aj (⟨a,0,none⟩:Addr) 4 fun n=>K (.tuple ⟨[.agg ⟨n⟩,.bool false]⟩))))) (ld ((⟨b,0,none⟩:Addr).add 0) (xI .i64 fun o=>br ((bG .i64 .and o 1)!=f) (bl True (bl (4=4) (iN (⟨a,0,none⟩:Addr) [.i 0,.i 0,.i 0,.i 0] (aj (⟨a,0,none⟩:Addr) 4 fun p=>K (.tuple ⟨[.agg ⟨p⟩,.bool false]⟩))))) (aj (⟨b,0,none⟩:Addr) 4 fun d=>bl (d.length=4) (iN (⟨a,0,none⟩:Addr) d (aj (⟨a,0,none⟩:Addr) 4 fun q=>K (.tuple ⟨[.agg ⟨q⟩,.bool true]⟩))))))))) l) k)))
def kd(e:OA)(b:Int)(K:VK):WK:=mk [.i 0,.i 0,.i 0,.i 0] fun c=>eW e b (x2 fun f g=>(xS fun h=>(xI .i64 fun j=>ij h (x2 fun k l=>(xA 3 fun d=>(xB fun m=>mk [.i 0,.i 0,.string .empty] fun a=>bl (d.length=3) (iN (⟨a,0,none⟩:Addr) d (br (j !=0) (kd.j1 K c a b true) (br (!m) (kd.j1 K c a b true) (ld ((⟨a,0,none⟩:Addr).add 1) (xI .i64 fun n=>kd.j1 K c a b (n !=0))))))) l) k)) g) f)
def kd.u:WP|[.pointer a,.int .i64 b],K=>kd a b K|_,_=>no
def kL(e:OA)(K:VK):WK:=mk [.i 0,.i 0,.i 0,.i 0] fun a=>kd e 0 (x2 fun m n=>(xA 4 fun f=>(xB fun d=>mk [.i 0,.i 0,.i 0,.i 0] fun b=>bl (f.length=4) (iN (⟨b,0,none⟩:Addr) f (kd e 1 (x2 fun o p=>(xA 4 fun g=>(xB fun q=>mk [.i 0,.i 0,.i 0,.i 0] fun c=>bl (g.length=4) (iN (⟨c,0,none⟩:Addr) g (br q (br (!d) (aj (⟨c,0,none⟩:Addr) 4 fun h=>bl (h.length=4) (iN (⟨a,0,none⟩:Addr) h (aj (⟨a,0,none⟩:Addr) 4 fun r=>K (.tuple ⟨[.agg ⟨r⟩,.bool true]⟩)))) (ld ((⟨c,0,none⟩:Addr).add 0) (xI .i64 fun s=>ld ((⟨b,0,none⟩:Addr).add 0) (xI .i64 fun t=>br (decide (s>t)) (aj (⟨c,0,none⟩:Addr) 4 fun j=>bl (j.length=4) (iN (⟨a,0,none⟩:Addr) j (aj (⟨a,0,none⟩:Addr) 4 fun u=>K (.tuple ⟨[.agg ⟨u⟩,.bool true]⟩)))) (aj (⟨b,0,none⟩:Addr) 4 fun k=>bl (k.length=4) (iN (⟨a,0,none⟩:Addr) k (aj (⟨a,0,none⟩:Addr) 4 fun v=>K (.tuple ⟨[.agg ⟨v⟩,.bool d]⟩)))))))) (aj (⟨b,0,none⟩:Addr) 4 fun l=>bl (l.length=4) (iN (⟨a,0,none⟩:Addr) l (aj (⟨a,0,none⟩:Addr) 4 fun w=>K (.tuple ⟨[.agg ⟨w⟩,.bool d]⟩))))))) p) o)))) n) m)
def kL.u:WP|[.pointer a],K=>kL a K|_,_=>no
def ka(c:OA)(a b:Int)(K:VK):WK:=br (decide (a≥0)) (br (decide (a<b)) (cu c (xI .i64 fun d=>K (.bool (decide (b≤d))))) (K (.bool false))) (K (.bool false))
def ka.u:WP|[.pointer a,.int .i64 b,.int .i64 c],K=>ka a b c K|_,_=>no
def bD(a:OA)(K:VK):WK:=br (!(a.isNone)) (nn a fun b=>ld (b.add 1) (xB fun c=>K (.bool c))) (K (.bool false))
def bD.u:WP|[.pointer a],K=>bD a K|_,_=>no
def cO.j2(K:VK)(c:Nat)(d:OA)(a e b:Int)(f:Bool):WK:=br f (K (.tuple ⟨[.string .empty,.i 0,.bool false]⟩)) (ld ((⟨c,0,none⟩:Addr).add 0) (xI .i64 fun g=>fp d a e g (adx.wrap (12+b)) (x2 fun h j=>(xS fun k=>(xB fun l=>br (!l) (K (.tuple ⟨[.string .empty,.i 0,.bool false]⟩)) (tick (kD k (some 12) none fun m=>iu (adx.wrap (12+b)) (xI .i64 fun n=>K (.tuple ⟨[.string m,.i (adx.wrap (a+n)),.bool true]⟩))))) j) h)))
def cO.j1(K:VK)(b:OA)(c:Nat)(d:OA)(e f:Int)(g:Bool):WK:=br g (K (.tuple ⟨[.string .empty,.i 0,.bool false]⟩)) (ao b 4 (xI .i64 fun a=>bD b (xB fun h=>br h (cO.j2 K c d e f a true) (cO.j2 K c d e f a (decide (a>32768))))))
def cO(c:OA)(b d g:Int)(K:VK):WK:=br (decide (b≥d)) (K (.tuple ⟨[.string .empty,.i 0,.bool false]⟩)) (eW c b (x2 fun h j=>(xS fun k=>(xI .i64 fun r=>ij k (x2 fun l m=>(xA 3 fun f=>(xB fun n=>mk [.i 0,.i 0,.string .empty] fun a=>bl (f.length=3) (iN (⟨a,0,none⟩:Addr) f (ld ((⟨a,0,none⟩:Addr).add 2) (xS fun o=>jV o (xP fun e=>ao e 8 (xI .i64 fun p=>br (!n) (cO.j1 K e a c b d true) (ld ((⟨a,0,none⟩:Addr).add 1) (xI .i64 fun q=>br (q !=0) (cO.j1 K e a c b d true) (cO.j1 K e a c b d (p !=g)))))))))) m) l)) j) h))
def cO.u:WP|[.pointer a,.int .i64 b,.int .i64 c,.int .i64 d],K=>cO a b c d K|_,_=>no
def gH.j1(K:VK)(n:OA)(o q x:Int)(y:Bool):WK:=br y (K (.tuple ⟨[.p none,.l none 0 0,.i 1]⟩)) (bl (1=1∧(1=1∧(1=1∧(1=1∧(1=1∧True))))) (mk [.p n,.i o,.i q,.i o,.i x,.bool false] fun z=>(fun A=>∃(k:LV→World→Prop)(r:LV→World→Nat),k [.p none,.l none 0 0,.i 0,.p (some (⟨z,0,none⟩:Addr)),.l none 0 0] A∧∀(b:OA)(c:OA)(d:Nat)(e:Nat)(f:Int)(a:Addr)(g:OA)(h:Nat)(j:Nat)(m:World),k [.p b,.l c d e,.i f,.p (some a),.l g h j] m→(tick (ld (a.add 3) (xI .i64 fun B=>ld (a.add 4) (xI .i64 fun s=>cO n B q (adx.wrap (s+1)) (x3 fun C D E=>(xS fun F=>(xI .i64 fun G=>(xB fun H=>kp (a.add 4) [.i s] (br (!H) (K (.tuple ⟨[.p (some a),.l g h j,.i 0]⟩)) (bl (1=1∧True) (mk [.string F] fun I=>gj 1 16 [.string .empty] g h j (some ⟨I,0,none⟩) 1 fun t u v=>ld (a.add 4) (xI .i64 fun J=>st (a.add 3) (.i G) (st (a.add 4) (.i (adx.wrap (J+1))) ((fun w=>k [.p b,.l c d e,.i f,.p (some a),.l t u v] w∧r [.p b,.l c d e,.i f,.p (some a),.l t u v] w<r [.p b,.l c d e,.i f,.p (some a),.l g h j] m)))))))) E) D) C))))) m)))
def gH(a:OA)(c d b:Int)(K:VK):WK:=br (a.isNone) (K (.tuple ⟨[.p none,.l none 0 0,.i 2]⟩)) (ka a c d (xB fun e=>br (!e) (gH.j1 K a c d b true) (br (decide (b<0)) (gH.j1 K a c d b true) (gH.j1 K a c d b (decide (b>1152921504606846976))))))
def gH.u:WP|[.pointer a,.int .i64 b,.int .i64 c,.int .i64 d],K=>gH a b c d K|_,_=>no
def dP(a:OA)(b:Int)(K:VK):WK:=tick (br (!(a.isNone)) (br (decide (b≥0)) (br (decide (b≤32768)) (nn a fun c=>ld (c.add 2) (xI .i64 fun d=>nn a fun e=>ld (e.add 3) (xI .i64 fun f=>iu (adx.wrap (12+b)) (xI .i64 fun g=>kp (e.add 3) [.i f] (kp (c.add 2) [.i d] (K (.bool (decide (g≤(adx.wrap (d-f))))))))))) (K (.bool false))) (K (.bool false))) (K (.bool false)))
def dP.u:WP|[.pointer a,.int .i64 b],K=>dP a b K|_,_=>no
def kZ(c:Int)(b:BA)(K:VK):WK:=bl True (mk [.l none 0 0] fun a=>aD (some (⟨a,0,none⟩:Addr)) 8 c (x0 (aD (some (⟨a,0,none⟩:Addr)) 4 (b.size:Int) (x0 (gr (some (⟨a,0,none⟩:Addr)) b (x0 (bM (some (⟨a,0,none⟩:Addr)) (xS fun d=>K (.string d)))))))))
def kZ.u:WP|[.int .i64 a,.string b],K=>kZ a b K|_,_=>no
def aR.j3(K:VK)(a:OA)(e:BA)(b:Int):WK:=br (b !=0) (nn a fun f=>st (f.add 5) (.bool true) (K (.i b))) (tick (nn a fun c=>ld (c.add 3) (xI .i64 fun d=>iu (adx.wrap (12+(e.size:Int))) (xI .i64 fun g=>kp (c.add 3) [.i d] (nn a fun h=>st (h.add 3) (.i (adx.wrap (d+g))) (nn a fun j=>ld (j.add 4) (xI .i64 fun k=>nn a fun l=>st (l.add 4) (.i (adx.wrap (k+1))) (K (.i 0)))))))))
def aR.j2(K:VK)(a:OA)(b:BA)(m:Int)(n:Bool):WK:=br n (K (.i 6)) (tick (nn a fun e=>ld (e.add 0) (xP fun f=>nn a fun g=>ld (g.add 3) (xI .i64 fun h=>nn a fun j=>ld (j.add 2) (xI .i64 fun k=>nn a fun c=>ld (c.add 4) (xI .i64 fun d=>kZ (adx.wrap (d+1)) b (xS fun o=>kp (c.add 4) [.i d] (kp (j.add 2) [.i k] (kp (g.add 3) [.i h] (kp (e.add 0) [.p f] (ir f h k m o (xI .i64 fun l=>kp (c.add 4) [.i d] (br (l==0) (nn a fun q=>ld (q.add 0) (xP fun r=>fO r (xI .i64 fun s=>aR.j3 K a b s))) (aR.j3 K a b l))))))))))))))
def aR.j1(K:VK)(a:OA)(b:BA)(c:Int)(d:Bool):WK:=br d (K (.i 1)) (dP a (b.size:Int) (xB fun e=>br (!e) (aR.j2 K a b c true) (nn a fun f=>ld (f.add 4) (xI .i64 fun g=>aR.j2 K a b c (decide (g≥1152921504606846976))))))
def aR(a:OA)(b:Int)(c:BA)(K:VK):WK:=br (a.isNone) (K (.i 2)) (nn a fun d=>ld (d.add 5) (xB fun e=>br e (K (.i 9)) (br (decide (b<1)) (aR.j1 K a c b true) (aR.j1 K a c b (decide (b>1152921504606846976))))))
def aR.u:WP|[.pointer a,.int .i64 b,.string c],K=>aR a b c K|_,_=>no
def eE(a:OA)(K:VK):WK:=br (a.isNone) (K (.i 0)) (nn a fun b=>ld (b.add 4) (xI .i64 fun c=>K (.i c)))
def eE.u:WP|[.pointer a],K=>eE a K|_,_=>no
def dD(a:OA)(K:VK):WK:=br (!(a.isNone)) (nn a fun b=>ld (b.add 1) (xI .i64 fun c=>nn a fun d=>st (d.add 3) (.i c) (K (.tuple ⟨[]⟩)))) (K (.tuple ⟨[]⟩))
def dD.u:WP|[.pointer a],K=>dD a K|_,_=>no
end Go.Prog
namespace Go.Prog.N
abbrev lG:Nat:=71
abbrev dw:Nat:=235
abbrev cW:Nat:=262
abbrev cJ:Nat:=283
abbrev cI:Nat:=285
abbrev dk:Nat:=234
abbrev cH:Nat:=240
abbrev cF:Nat:=192
abbrev cE:Nat:=278
abbrev eQ:Nat:=135
abbrev jD:Nat:=136
abbrev dQ:Nat:=138
abbrev il:Nat:=180
abbrev tS:Nat:=2
abbrev pA:Nat:=0
abbrev lq:Nat:=139
abbrev HG:Nat:=193
abbrev dy:Nat:=270
abbrev ao:Nat:=69
abbrev bw:Nat:=74
abbrev bD:Nat:=115
abbrev aZ:Nat:=221
abbrev aY:Nat:=289
abbrev bB:Nat:=223
abbrev bA:Nat:=291
abbrev kx:Nat:=73
end Go.Prog.N
