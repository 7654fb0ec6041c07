/- Part of the proof: see the last text. -/
import Derived.OrdersHeld
import Derived.Calls
import Derived.KernelRfl
import Derived.Laws.Append
import Derived.Laws.CopyRow
import Derived.Tactics
import Derived.WalkKit
import Derived.Laws.BytesString
import Derived.Laws.MakeOwn
import Derived.Below
import Derived.Lib.Builder
import Derived.Lib.UnsafeStr
set_option linter.all false
set_option maxRecDepth 100000
set_option synthInstance.maxSize 100000
open Array renaming replicate→ae7,ext'→afz
open Bool renaming false_eq_true→aeo,and_eq_true→aeR,false_ne_true→aeq,true_and→ae0
open Go.IntKind renaming i64→adU
open Int renaming toNat_natCast→adY
open List renaming range→aft,map_cons→aez,getElem?_eq_getElem→adX,getElem?_eq_none→aeZ,append_assoc→ad5,take_append_drop→aer,nil_append→aeA,drop_drop→ae8,cons_append→afa,map_nil→afw,getElem?_eq_some_iff→adZ,getElem?_map→aeJ,mem_cons_of_mem→ae1,drop_zero→ae5,getElem?_range→afq,getElem?_cons_succ→aed,mem_of_find?_eq_some→aeW,mem_cons→afe,Perm→aem,length_cons→aee,getElem?_append_left→ael,getElem?_append_right→aey,set_set→afb,set_cons_succ→afc,getElem?_drop→afd,ext_getElem?→afg,length_append→ad0,length_drop→ad9,append_nil→aei,map_append→aeu,drop_of_length_le→aeF,mem_map→aeI,map_congr_left→ae6,map_map→afx,replicate→aec,drop_eq_getElem_cons→aeD,take_length→ad',getElem_mem→aej,length_map→aen,mem_of_getElem?→aep,mem_or_eq_of_mem_set→aeC,getD_eq_getElem?_getD→aeM,take_succ_eq_append_getElem→aeS,length_nil→aes,getElem?_set→aet,length_singleton→afk
open Nat renaming beq→afi,eq_of_beq_eq_true→aex,zero_le→ad6,add_zero→aeT,le_of_ble_eq_true→ad3,le_refl→ad4,zero_add→ad1,mul_le_mul_right→aeL,add_mul→afl,reduceAdd→adV,reduceMul→adW,mul_one→afn
open Option renaming some→aeh,getD_some→aew
namespace Go
abbrev OA:=Option Addr
abbrev LV:=List Value
abbrev BA:=ByteArray
abbrev Value.i(n:Int):Value:=.int .i64 n
abbrev Value.u(n:Int):Value:=.int .u64 n
abbrev Value.p(a:OA):Value:=.pointer a
abbrev Value.l(a:OA)(n c:Nat):Value:=.slice a n c
end Go
namespace Go.Den
abbrev Env:=List (Nat×Value)
abbrev WK:=World->Prop
abbrev VK:=Value->World->Prop
abbrev WP:=LV->VK->WK
abbrev B9:=List (Nat×WP)
def lk:Env->Nat->Option Value
 |[],_=>none
 |(s,v)::e,t=>bif afi s t then some v else lk e t
def no:WK:=λ_=>False
def ev(e:Env):Operand->Option Value
 | .tmp t=>lk e t
 | .const v=>some v
 | .global g=>some (.pointer (some ⟨g,0,none⟩))
 | .func f=>some (.func (.func f) #[] #[])
def LL(e:Env):List Operand->Option (LV)
 |[]=>some []
 |x::xs=>match ev e x with
  |some v=>match LL e xs with
   |some vs=>some (v::vs)
   |none=>none
  |none=>none
def a8(p:Prop)(K:WK):WK:=λw=>p/\K w
def br(b:Bool)(X Y:WK):WK:=match b with|true=>X|false=>Y
def nn(p:OA)(K:Addr->WK):WK:=match p with|some a=>K a|none=>no
def xI(k:IntKind)(K:Int->WK):VK:=λv w=>∃n,v=.int k n/\K n w
def xB(K:Bool->WK):VK:=λv w=>∃b,v=.bool b/\K b w
def xS(K:BA->WK):VK:=λv w=>∃s,v=.string s/\K s w
def xP(K:OA->WK):VK:=λv w=>∃p,v=.pointer p/\K p w
def xL(K:OA->Nat->Nat->WK):VK:=λv w=>∃b n c,v=.slice b n c/\K b n c w
def xA(n:Nat)(K:LV->WK):VK:=λv w=>∃cs,v=.agg ⟨cs⟩/\cs.length=n/\K cs w
def HG(z:Value)(K:VK):VK:=match z with
 | .int k _=>xI k λn=>K (.int k n)
 | .bool _=>xB λb=>K (.bool b)
 | .string _=>xS λs=>K (.string s)
 | .pointer _=>xP λp=>K (.pointer p)
 | .slice _ _ _=>xL λb n c=>K (.slice b n c)
 | .agg zs=>xA zs.size λcs=>K (.agg ⟨cs⟩)
 |_=>K
def x0(K:WK):VK:=λv w=>v=.tuple ⟨[]⟩/\K w
def x2(K:Value->Value->WK):VK:=λv w=>∃a b,v=.tuple ⟨[a,b]⟩/\K a b w
def x3(K:Value->Value->Value->WK):VK:=λv w=>∃a b c,v=.tuple ⟨[a,b,c]⟩/\K a b c w
def xT(z:Value)(K:VK):VK:=match z with
 | .tuple zs=>match zs.toList with
   |[]=>x0 (K (.tuple ⟨[]⟩))
   |[y,z]=>x2 λa b=>HG y (λa=>HG z (λb=>K (.tuple ⟨[a,b]⟩)) b) a
   |[x,y,z]=>x3 λa b c=>HG x (λa=>HG y (λb=>HG z (λc=>K (.tuple ⟨[a,b,c]⟩)) c) b) a
   |_=>λ_=>no
 |z=>HG z K
def Zy(z:Value)(f:Value->Prop):Prop:=match z with
 | .int k _=>∀n,f (.int k n)
 | .bool _=>∀b,f (.bool b)
 | .string _=>∀s,f (.string s)
 | .pointer (some _)=>∀a,f (.pointer (some a))
 | .pointer none=>∀p,f (.pointer p)
 | .slice _ _ _=>∀b n c,f (.slice b n c)
 | .agg _=>∀cs:LV,f (.agg ⟨cs⟩)
 |_=>∀v,f v
def BY:LV->(LV->Prop)->Prop
 |[],f=>f []
 |z::zs,f=>Zy z λv=>BY zs λvs=>f (v::vs)
def fits(z v:Value):Bool:=match z,v with
 | .int k _,.int k' _=>decide (k=k')
 | .bool _,.bool _=>true
 | .string _,.string _=>true
 | .pointer none,.pointer _=>true
 | .pointer (some _),.pointer (some _)=>true
 | .slice _ _ _,.slice _ _ _=>true
 | .agg _,.agg _=>true
 | .int _ _,_=>false
 | .bool _,_=>false
 | .string _,_=>false
 | .pointer _,_=>false
 | .slice _ _ _,_=>false
 | .agg _,_=>false
 |_,_=>true
def ld(a:Addr)(K:VK):WK:=λw=>∃v,w.cell? a=some v/\K v w
def tB(w:World)(a:Addr)(cs:LV):Prop:=∀j v,cs[j]?=some v->w.cell? (a.add j)=some v
def ai(a:Addr)(n:Nat)(K:LV->WK):WK:=λw=>∃cs,cs.length=n/\tB w a cs/\K cs w
def st(a:Addr)(v:Value)(K:WK):WK:=λw=>v.oneCell'=true/\(∃o,w.cell? a=some o)/\w.frozen? a=false/\K (w.setCell a v)
def vA(w:World)(a:Addr)(i:Nat):LV->World
 |[]=>w
 |v::r=>vA (w.setCell (a.add i) v) a (i+1) r
def th(w:World)(a:Addr)(i:Nat)(cs:LV):Prop:=
 (∀v∈cs,v.oneCell'=true)/\∀j,j<cs.length->(∃o,w.cell? (a.add (i+j))=some o)/\w.frozen? (a.add (i+j))=false
def gp(a:Addr)(cs:LV)(K:WK):WK:=λw=>th w a 0 cs/\K (vA w a 0 cs)
def mk(cs:LV)(K:Nat->WK):WK:=λw=>∀t,K w.heap.size (w.alloc (.cells ⟨cs⟩ t))
def Xm(t:TypeId)(cs:LV)(K:Nat->WK):WK:=λw=>K w.heap.size (w.alloc (.cells ⟨cs⟩ t))
def tick(K:WK):WK:=λw=>K w.drew
def G8(T:B9)(f:Nat):WP:=match T with
 |[]=>λ_ _=>no
 |(g,p)::r=>bif afi g f then p else G8 r f
def fP(b:OA)(len:Nat)(i:Int)(size:Nat)(K:Addr->WK):WK:=
 λw=>∃a,b=some a/\(0<=i/\i<len)/\K (a.add (i.toNat* size)) w
def vc(s:BA)(i:Int)(K:UInt8->WK):WK:=λw=>∃c,(0<=i/\s.data.toList[i.toNat]?=some c)/\K c w
def yU(cs:LV)(len:Nat)(i:Int)(K:VK):WK:=λw=>∃v,(0<=i/\i<len/\cs[i.toNat]?=some v)/\K v w
def tR(b:OA)(cap l size:Nat):OA:=if cap=l then b else b.map (·.add (l* size))
def oo(b:OA)(len cap size:Nat)(lo hi:Option Int)(K:OA->Nat->Nat->WK):WK:=
 match hi with
 |none=>match lo with
  |none=>K (tR b cap 0 size) len cap
  |some l=>a8 (0<=l/\l<=len) (K (tR b cap l.toNat size) (len-l.toNat) (cap-l.toNat))
 |some h=>a8 (0<=h/\h<=cap) (match lo with
  |none=>K (tR b cap 0 size) h.toNat cap
  |some l=>a8 (0<=l/\l<=h) (K (tR b cap l.toNat size) (h.toNat-l.toNat) (cap-l.toNat)))
def iX(s:BA)(lo hi:Option Int)(K:BA->WK):WK:=
 match hi with
 |none=>match lo with
  |none=>K (s.extract 0 s.size)
  |some l=>a8 (0<=l/\l<=s.size) (K (s.extract l.toNat s.size))
 |some h=>a8 (0<=h/\h<=s.size) (match lo with
  |none=>K (s.extract 0 h.toNat)
  |some l=>a8 (0<=l/\l<=h) (K (s.extract l.toNat h.toNat)))
def Src(w:World)(n size:Nat)(b:OA)(cs:LV):Prop:=
 cs.length=n* size/\∀a,b=some a->tB w a cs
def strCells(s:BA):LV:=s.data.toList.map λc=>.int .u8 c.toNat
def RY(size bytes:Nat)(zero:LV)(b:OA)(len cap n:Nat)(new:LV)(K:OA->Nat->Nat->WK):WK:=λw=>
 (len+n<=cap->(∀a,b=some a->th w (a.add (len* size)) 0 new/\K b (len+n) cap (vA w (a.add (len* size)) 0 new))/\(b=none->K b (len+n) cap w))/\
 (cap<len+n->(len+n)* bytes<=140737488355328/\(len+n:Nat)<=(9223372036854775807:Int)/\∃old,Src w len size b old/\(b=none->len=0)/\
  ∀c' t,len+n<=c'->K (some ⟨w.heap.size,0,none⟩) (len+n) c' (w.drew.alloc (.cells ((old++new).toArray++Builtin.zeroCells ⟨zero⟩ (c'-(len+n))) t)))
def eW(size bytes:Nat)(zero:LV)(b:OA)(len cap:Nat)(b':OA)(n:Nat)(K:OA->Nat->Nat->WK):WK:=λw=>
 ∃new,Src w n size b' new/\(b'=none->n=0)/\RY size bytes zero b len cap n new K w
def BX(b:OA)(len cap:Nat)(s:BA)(K:OA->Nat->Nat->WK):WK:=
 RY 1 1 [.int .u8 0] b len cap s.size (strCells s) K
def bytesOf(cs:LV):List UInt8:=cs.map λ| .int _ n=>UInt8.ofNat n.toNat|_=>0
def RV(b:OA)(n:Nat)(K:BA->WK):WK:=λw=>
 (b=none->K .empty w)/\∀a,b=some a->∃cs,cs.length=n/\tB w a cs/\(∀v∈cs,∃m,v=.int .u8 m)/\K ⟨⟨bytesOf cs⟩⟩ w
def ZJ(s:BA)(K:Nat->Nat->WK):WK:=λw=>
 ∀c t,s.size<=c->K w.heap.size c ((w.drew.alloc (.cells ((strCells s).toArray++ae7 (c-s.size) (.int .u8 0)) t)).freeze ⟨w.heap.size,c,none⟩ 1)
def Gh(bytes:Nat)(zero:LV)(len cap:Int)(K:OA->Nat->Nat->WK):WK:=λw=>
 (0<=len/\len<=cap/\cap<=9223372036854775807/\cap* bytes<=281474976710656)/\
 ∀t,K (some ⟨w.heap.size,0,none⟩) len.toNat cap.toNat (w.alloc (.cells (Builtin.zeroCells ⟨zero⟩ cap.toNat) t))
def OF(size:Nat)(b:OA)(len:Nat)(b':OA)(QW:Nat)(K:Nat->WK):WK:=λw=>
 ∃new,Src w (min QW len) size b' new/\(b'=none->min QW len=0)/\(b=none->K (min QW len) w)/\∀a,b=some a->th w a 0 new/\K (min QW len) (vA w a 0 new)
def RH(cs:LV)(b:OA)(len:Nat)(K:WK):WK:=λw=>
 (b=none\/len=0->K w)/\∀a,b=some a->len≠0->th w a 0 cs/\K (vA w a 0 cs)
def tz(T:B9)(v:Value)(args:LV)(K:VK):WK:=match v with
 | .func (.func g) first cap=>G8 T g (first.toList++args++cap.toList) K
 |_=>no
def SG(v:Value)(K:VK):WK:=match v with
 | .pointer p=>nn p λa=>K (.pointer (some a))
 | .func (.func g) first cap=>K (.func (.func g) first cap)
 |_=>no
end Go.Den
namespace Go.Den
def bC(k:IntKind)(op:BinOp)(x y:Int):Int:=
 match op with
 | .and=>k.wrap ((BitVec.ofInt k.bits x&&&BitVec.ofInt k.bits y).toNat)
 | .or=>k.wrap ((BitVec.ofInt k.bits x|||BitVec.ofInt k.bits y).toNat)
 | .xor=>k.wrap ((BitVec.ofInt k.bits x^^^BitVec.ofInt k.bits y).toNat)
 |_=>k.wrap ((BitVec.ofInt k.bits x&&&~~~BitVec.ofInt k.bits y).toNat)
def shl(k:IntKind)(x y:Int):Int:=k.wrap (x* 2^(min y.toNat k.bits))
def shr(k:IntKind)(x y:Int):Int:=x.fdiv (2^(min y.toNat k.bits))
def Bn(op:BinOp)(k:IntKind)(x y:Int)(K:VK):WK:=
 match op with
 | .add=>K (.int k (k.wrap (x+y)))
 | .sub=>K (.int k (k.wrap (x-y)))
 | .mul=>K (.int k (k.wrap (x* y)))
 | .quo=>a8 (y≠0) (K (.int k (k.wrap (x.tdiv y))))
 | .rem=>a8 (y≠0) (K (.int k (x.tmod y)))
 | .and=>K (.int k (bC k .and x y))
 | .or=>K (.int k (bC k .or x y))
 | .xor=>K (.int k (bC k .xor x y))
 | .andNot=>K (.int k (bC k .andNot x y))
 | .eql=>K (.bool (x==y))
 | .neq=>K (.bool (x !=y))
 | .lss=>K (.bool (decide (x<y)))
 | .leq=>K (.bool (decide (x<=y)))
 | .gtr=>K (.bool (decide (x>y)))
 | .geq=>K (.bool (decide (x>=y)))
 | .shl=>a8 (0<=y) (K (.int k (shl k x y)))
 | .shr=>a8 (0<=y) (K (.int k (shr k x y)))
def pk(x y:BA):Bool:=x.toList==y.toList
def HR(op:BinOp)(x y:BA)(K:VK):WK:=
 match op with
 | .add=>a8 (((x.size+y.size:Nat):Int)<=9223372036854775807) (K (.string (x++y)))
 | .eql=>K (.bool (pk x y))
 | .neq=>K (.bool (!pk x y))
 |_=>no
abbrev Po:=List (Nat×LV)
def DH:Po->Nat->Option (LV)
 |[],_=>none
 |(t,z)::r,u=>bif afi t u then some z else DH r u
def kS:LV->LV->Bool
 |[],[]=>true
 |z::zs,v::vs=>fits z v&&kS zs vs
 |_,_=>false
def vO(x y:Value):Bool:=match x,y with
 | .int _ a,.int _ b=>a==b
 | .bool a,.bool b=>a==b
 | .string a,.string b=>pk a b
 |_,_=>false
def fq:LV->LV->Bool
 |[],[]=>true
 |x::xs,y::ys=>vO x y&&fq xs ys
 |_,_=>false
def nF(zs xs ys:LV)(K:Bool->WK):WK:=λw=>(kS zs xs=true/\kS zs ys=true)/\K (fq xs ys) w
def IV(P:Program)(E:Po)(op:BinOp)(t:TypeId)(x y:Value)(K:VK):WK:=
 match x,y with
 | .int k a,.int k' b=>match op with
   | .shl=>Bn .shl k a b K
   | .shr=>Bn .shr k a b K
   |op=>bif decide (k=k') then Bn op k a b K else no
 | .string a,.string b=>HR op a b K
 | .bool a,.bool b=>match P.underlying t,op with
   |some .bool,.eql=>K (.bool (a==b))
   |some .bool,.neq=>K (.bool (!(a==b)))
   |_,_=>no
 | .pointer p,.pointer none=>match P.underlying t,op with
   |some (.pointer _),.eql=>K (.bool p.isNone)
   |some (.pointer _),.neq=>K (.bool (!p.isNone))
   |_,_=>no
 | .slice p _ _,.slice none _ _=>match P.underlying t,op with
   |some (.slice _),.eql=>K (.bool p.isNone)
   |some (.slice _),.neq=>K (.bool (!p.isNone))
   |_,_=>no
 | .agg xs,.agg ys=>match DH E t,op with
   |some zs,.eql=>nF zs xs.toList ys.toList λb=>K (.bool b)
   |some zs,.neq=>nF zs xs.toList ys.toList λb=>K (.bool (!b))
   |_,_=>no
 |_,_=>no
def MS(op:UnOp)(x:Value)(K:VK):WK:=
 match op,x with
 | .not,.bool b=>K (.bool (!b))
 | .neg,.int k n=>K (.int k (k.wrap (0-n)))
 | .xor,.int k n=>K (.int k (bC k .xor (if k.signed then-1 else k.max) n))
 |_,_=>no
def Af(P:Program)(s d:TypeId)(x:Value)(K:VK):WK:=
 match P.underlying s with
 |none=>no
 |some sd=>match P.underlying d,x with
  |some (.int k),.int _ n=>K (.int k (k.wrap n))
  |some .string,.string _=>K x
  |some (.slice e),.string b=>match P.underlying e with
   |some (.int .u8)=>ZJ b λr c=>K (.slice (some ⟨r,0,none⟩) b.size c)
   |_=>no
  |some .string,.slice p n _=>match sd with
   | .slice e=>match P.underlying e with
     |some (.int .u8)=>RV p n λb=>K (.string b)
     |_=>no
   |_=>no
  |_,_=>no
def zeroOf(P:Program)(t:TypeId):Option Value:=
 match P.info? t with
 |some i=>i.zero
 |none=>none
def cU(v:Value):LV:=match v with| .agg cs=>cs.toList|v=>[v]
def pH(d:TypeDesc):Bool:=match d with| .struct _| .array _ _=>true|_=>false
def wI(r:Nat):Value:=.pointer (some ⟨r,0,none⟩)
def CS(P:Program)(t:TypeId):Bool:=
 match P.underlying t with
 |some (.struct fs)=>match fs.toList with
  |[f,g]=>match P.underlying f.type,P.underlying g.type with
   |some (.pointer e),some (.slice _)=>afi e t
   |_,_=>false
  |_=>false
 |_=>false
def wS(P:Program)(t:TypeId)(a:Addr)(K:LV->VK):WK:=
 match P.underlying t,P.info? t with
 |some d,some i=>bif pH d then ai a i.size λcs=>K cs (.agg ⟨cs⟩) else
                  match i.zero with
                  |some z=>ld a (HG z λv=>K [v] v)
                  |none=>no
 |_,_=>no
def AD(P:Program)(t:TypeId)(a:Addr)(v:Value)(K:VK):WK:=
 match P.info? t with
 |some i=>match v with
  | .agg cs=>a8 (cs.toList.length=i.size) (gp a cs.toList (K undef))
  |v=>bif afi i.size 1 then st a v (K undef) else no
 |none=>no
def qB(zero:LV):List (Nat×Nat)->Nat->Nat->List (Nat×LV)->Option (LV×Prop)
 |[],at_,_,ps=>bif afi at_ zero.length then(match ps with|[]=>some ([],True)|_=>none) else none
 |(off,n)::fs,at_,i,ps=>bif afi off at_ then
                         (match ps with
                         |[]=>match qB zero fs (at_+n) (i+1) [] with
                          |some (r,p)=>some ((zero.drop off).take n++r,p)
                          |none=>none
                         |(j,cs)::ps'=>bif afi i j then
                            match qB zero fs (at_+n) (i+1) ps' with
                            |some (r,p)=>some (cs++r,cs.length=n/\p)
                            |none=>none
                          else match qB zero fs (at_+n) (i+1) ps with
                           |some (r,p)=>some ((zero.drop off).take n++r,p)
                           |none=>none)
  else none
def sF(P:Program):List Field->Option (List (Nat×Nat))
 |[]=>some []
 |f::fs=>match P.info? f.type,sF P fs with
  |some i,some r=>some ((f.offset,i.size)::r)
  |_,_=>none
def BQ(P:Program)(t:TypeId)(parts:List (Nat×Value))(K:VK):WK:=
 match zeroOf P t,P.underlying t with
 |some (.agg z),some (.struct fs)=>match sF P fs.toList with
  |some pl=>match qB z.toList pl 0 0 (parts.map λp=>(p.1,cU p.2)) with
   |some (cs,p)=>a8 p (K (.agg ⟨cs⟩))
   |none=>no
  |none=>no
 |some (.agg z),some (.array n e)=>match P.info? e with
  |some i=>match qB z.toList ((aft n).map λj=>(j* i.size,i.size)) 0 0 (parts.map λp=>(p.1,cU p.2)) with
   |some (cs,p)=>a8 p (K (.agg ⟨cs⟩))
   |none=>no
  |none=>no
 |_,_=>no
def vT(P:Program)(t:TypeId)(len:Nat)(parts:List (Nat×Value))(K:VK):WK:=
 match P.underlying t with
 |some (.slice e)=>match P.info? e with
  |some i=>match i.zero with
   |some z=>bif Nat.ble (len* i.size) 16777216&&Nat.blt 0 i.size&&afi (cU z).length i.size then
             match qB (Builtin.zeroCells ⟨cU z⟩ len).toList ((aft len).map λj=>(j* i.size,i.size)) 0 0 (parts.map λp=>(p.1,cU p.2)) with
             |some (cs,p)=>a8 p (mk cs λr=>K (.slice (some ⟨r,0,none⟩) len len))
             |none=>no
    else no
   |none=>no
  |none=>no
 |_=>no
def EM(e:Env):List (Nat×Operand)->Option (List (Nat×Value))
 |[]=>some []
 |(i,x)::r=>match ev e x,EM e r with
  |some v,some vs=>some ((i,v)::vs)
  |_,_=>none
def PR(e:Env):Option Operand->Option (Option Int)
 |none=>some none
 |some x=>match ev e x with
  |some (.int _ n)=>some (some n)
  |_=>none
def AE(P:Program)(t:TypeId)(x:Value)(lo hi:Option Int)(K:VK):WK:=
 match P.underlying t,x with
 |some .string,.string s=>iX s lo hi λr=>K (.string r)
 |some (.slice e),.slice b n c=>match P.info? e with
  |some i=>oo b n c i.size lo hi λb n c=>K (.slice b n c)
  |none=>no
 |some (.array n e),.pointer (some a)=>match P.info? e with
  |some i=>oo (some a) n n i.size lo hi λb n c=>K (.slice b n c)
  |none=>no
 |_,_=>no
def sV(P:Program)(t:TypeId)(x i:Value)(K:VK):WK:=
 match P.underlying t,x,i with
 |some (.slice e),.slice b n _,.int _ j=>match P.info? e with
  |some i=>fP b n j i.size λa=>K (.pointer (some a))
  |none=>no
 |some (.array n e),.pointer (some a),.int _ j=>match P.info? e with
  |some i=>a8 (0<=j/\j<n) (K (.pointer (some (a.add (j.toNat* i.size)))))
  |none=>no
 |_,_,_=>no
def Bo(P:Program)(t:TypeId)(x i:Value)(K:VK):WK:=
 match P.underlying t,x,i with
 |some .string,.string s,.int _ j=>vc s j λc=>K (.int .u8 c.toNat)
 |some (.array n e),.agg cs,.int _ j=>match P.underlying e,P.info? e with
  |some d,some i=>bif pH d then a8 (0<=j/\j<n) (K (.agg ⟨(cs.toList.drop (j.toNat* i.size)).take i.size⟩))
   else bif afi i.size 1 then match i.zero with
    |some z=>yU cs.toList n j (HG z K)
    |none=>no
   else no
  |_,_=>no
 |_,_,_=>no
def BC(P:Program)(t:TypeId)(x:Value)(f:Nat)(K:VK):WK:=
 match P.underlying t,x with
 |some (.struct fs),.agg cs=>match fs[f]? with
  |some fl=>match P.underlying fl.type,P.info? fl.type with
   |some d,some i=>bif pH d then K (.agg ⟨(cs.toList.drop fl.offset).take i.size⟩)
    else match i.zero with
     |some z=>λw=>∃v,cs.toList[fl.offset]?=some v/\HG z K v w
     |none=>no
   |_,_=>no
  |none=>no
 |_,_=>no
def s7(P:Program)(t:TypeId)(x:Value)(f:Nat)(K:VK):WK:=
 match P.underlying t,x with
 |some (.struct fs),.pointer (some a)=>match fs[f]? with
  |some fl=>match P.info? fl.type with
   |some i=>bif afi i.size 0 then no else K (.pointer (some (a.add fl.offset)))
   |none=>no
  |none=>no
 |_,_=>no
def Ij(P:Program)(t:TypeId)(x:Value)(K:VK):WK:=
 match P.underlying t,x with
 |some .string,.string s=>K (.i s.size)
 |some (.slice _),.slice _ n _=>K (.i n)
 |some (.array n _),_=>K (.i n)
 |_,_=>no
def min2(x y:Int):Int:=if y<x then y else x
def max2(x y:Int):Int:=if y>x then y else x
def mU:Int->LV->Option Int
 |x,[]=>some x
 |x,.int _ y::r=>mU (min2 x y) r
 |_,_=>none
def Bf:Int->LV->Option Int
 |x,[]=>some x
 |x,.int _ y::r=>Bf (max2 x y) r
 |_,_=>none
def IZ(P:Program)(t u:TypeId)(s x:Value)(K:VK):WK:=
 match P.underlying t,s with
 |some (.slice e),.slice b n c=>match P.info? e with
  |some i=>match i.zero with
   |some z=>match P.underlying u,x with
    |some (.slice _),.slice b' m _=>eW i.size i.bytes (cU z) b n c b' m λb n c=>K (.slice b n c)
    |some .string,.string y=>bif afi i.size 1&&afi i.bytes 1 then match z with
                              | .int .u8 0=>BX b n c y λb n c=>K (.slice b n c)
                              |_=>no
     else no
    |_,_=>no
   |none=>no
  |none=>no
 |_,_=>no
def vS(P:Program)(b:Builtin)(ts:List TypeId)(args:LV)(K:VK):WK:=
 match b,ts,args with
 | .len,t::_,[x]=>Ij P t x K
 | .min,_,.int k x::r=>match mU x r with|some m=>K (.int k m)|none=>no
 | .max,_,.int k x::r=>match Bf x r with|some m=>K (.int k m)|none=>no
 | .append,[t,u],[s,x]=>IZ P t u s x K
 | .copy,t::_,[.slice b n _,.slice b' m _]=>match P.underlying t with
   |some (.slice e)=>match P.info? e with
    |some i=>OF i.size b n b' m λk=>K (.i k)
    |none=>no
   |_=>no
 | .clear,t::_,[.slice b n _]=>match P.underlying t with
   |some (.slice e)=>match P.info? e with
    |some i=>match i.zero with
     |some z=>RH (Builtin.zeroCells ⟨cU z⟩ n).toList b n (K (.tuple ⟨[]⟩))
     |none=>no
    |none=>no
   |_=>no
 | .cap,t::_,[.slice _ _ c]=>match P.underlying t with
   |some (.slice _)=>K (.i c)
   |_=>no
 |_,_,_=>no
def xu(P:Program)(T:B9)(e:Env)(c:Call)(ty:TypeId)(K:VK):WK:=
 match LL e c.args.toList with
 |none=>no
 |some args=>match c.callee with
  | .builtin b=>vS P b c.argTypes.toList args K
  | .value f=>match ev e f with
    |some v=>match zeroOf P ty with
     |some z=>tz T v args (xT z K)
     |none=>no
    |none=>no
  | .invoke _ _=>no
def tZ(P:Program)(T:B9)(E:Po)(e:Env)(op:Op)(ty:TypeId)(K:VK):WK:=
 match op with
 | .move x| .assign x=>match ev e x with|some v=>K v|none=>no
 | .pick c x y=>match ev e c with
   |some (.bool b)=>br b (match ev e x with|some v=>K v|none=>no) (match ev e y with|some v=>K v|none=>no)
   |_=>no
 | .alloc t=>match zeroOf P t with
   |some z=>bif CS P t then Xm t (cU z) λr=>K (wI r) else mk (cU z) λr=>K (wI r)
   |none=>no
 | .box _ x=>match ev e x with
   |some v=>mk (cU v) λr=>K (wI r)
   |none=>no
 | .build t ps=>match EM e ps.toList with
   |some l=>BQ P t l K
   |none=>no
 | .buildSlice t n ps=>match EM e ps.toList with
   |some l=>vT P t n l K
   |none=>no
 | .load t x=>match ev e x with
   |some (.pointer (some a))=>wS P t a λ_=>K
   |_=>no
 | .store t x y=>match ev e x,ev e y with
   |some (.pointer (some a)),some v=>AD P t a v K
   |_,_=>no
 | .nilCheck x=>match ev e x with
   |some v=>SG v K
   |none=>no
 | .binOp op t x y _=>match ev e x,ev e y with
   |some a,some b=>IV P E op t a b K
   |_,_=>no
 | .unOp op _ x=>match ev e x with
   |some a=>MS op a K
   |none=>no
 | .convert s d x=>match ev e x with
   |some a=>Af P s d a K
   |none=>no
 | .makeFunc fn first cap=>match LL e first.toList,LL e cap.toList with
   |some f,some c=>K (.func fn ⟨f⟩ ⟨c⟩)
   |_,_=>no
 | .makeSlice t n c=>match P.underlying t,ev e n,ev e c with
   |some (.slice el),some (.int _ n),some (.int _ c)=>match P.info? el with
    |some i=>match i.zero with
     |some z=>bif Nat.blt 0 i.size&&afi (cU z).length i.size then Gh i.bytes (cU z) n c λb n c=>K (.slice b n c) else no
     |none=>no
    |none=>no
   |_,_,_=>no
 | .slice t x lo hi none=>match ev e x,PR e lo,PR e hi with
   |some v,some l,some h=>AE P t v l h K
   |_,_,_=>no
 | .fieldAddr t x f=>match ev e x with
   |some v=>s7 P t v f K
   |none=>no
 | .field t x f=>match ev e x with
   |some v=>BC P t v f K
   |none=>no
 | .indexAddr t x i=>match ev e x,ev e i with
   |some v,some j=>sV P t v j K
   |_,_=>no
 | .index t x i=>match ev e x,ev e i with
   |some v,some j=>Bo P t v j K
   |_,_=>no
 | .extract x i=>match ev e x with
   |some (.tuple vs)=>match vs[i]? with
    |some v=>K v
    |none=>no
   |_=>no
 | .call c=>xu P T e c ty K
 |_=>no
def cover:Env->Nat->Bool
 |C,d=>match lk C d with|none=>true|some _=>false
def pt(n:Nat)(C:Env)(e:Env)(d:Option Tmp)(v:Value)(K:Env->WK):WK:=
 match d with
 |none=>K e
 |some d=>bif Nat.blt d n&&cover C d then K ((d,v)::e) else no
structure Fn where
 P:Program
 T:B9
 E:Po
 n:Nat
 C:Env
 EW:List (Nat×List (Nat×Value))
def LG(ops:Array Oper)(j:Nat):Option Tmp:=match ops[j]? with|some o=>o.dst|none=>none
def IX(a b:Bool):Bool:=match a,b with|true,true=>true|false,false=>true|_,_=>false
def SF(F:Fn)(ops:Array Oper)(o:Oper)(K:Env->WK)(e:Env):WK:=
 match o.guard with
 |none=>tZ F.P F.T F.E e o.op o.type λv=>pt F.n F.C e o.dst v K
 |some (j,want)=>match LG ops j with
  |none=>no
  |some d=>match lk e d with
   |some (.bool b)=>
    br b (bif IX true want then tZ F.P F.T F.E ((d,.bool true)::e) o.op o.type λv=>pt F.n F.C ((d,.bool true)::e) o.dst v K else pt F.n F.C ((d,.bool true)::e) o.dst undef K)
     (bif IX false want then tZ F.P F.T F.E ((d,.bool false)::e) o.op o.type λv=>pt F.n F.C ((d,.bool false)::e) o.dst v K else pt F.n F.C ((d,.bool false)::e) o.dst undef K)
   |some (.tuple _)=>pt F.n F.C e o.dst undef K
   |_=>no
def tT(F:Fn)(ops:Array Oper):List Oper->(Env->WK)->Env->WK
 |[],K,e=>K e
 |o::r,K,e=>SF F ops o (tT F ops r K) e
def cls(P:Program)(op:Op):Nat:=
 match op with
 | .move _| .assign _| .pick _ _ _| .nilCheck _| .binOp .. | .unOp .. | .makeFunc .. | .slice .. | .fieldAddr .. | .field .. | .indexAddr .. | .index .. | .extract .. | .build .. =>0
 | .convert _ d _=>match P.underlying d with|some (.int _)=>0|_=>2
 | .load _ _=>1
 | .call c=>match c.callee with
   | .builtin .len=>0| .builtin .min=>0| .builtin .max=>0
   |_=>2
 |_=>2
abbrev zD:=List (Nat×Addr×LV)
def jA:zD->WK->WK
 |[],K=>K
 |(_,a,cs)::r,K=>λw=>tB w a cs/\jA r K w
def waits(o:Oper)(i:Nat):Bool:=o.after.any λed=>Region.binds .any ed&&afi ed.on i
def kp(a:Addr)(cs:LV)(K:WK):WK:=λw=>tB w a cs/\K w
def both(X Y:WK):WK:=λw=>X w/\Y w
def stays(o:Oper)(S:zD):zD:=S.filter λp=> !waits o p.1
def VM:List Nat->(Nat->WK)->WK
 |[],_=>λ_=>True
 |[i],f=>f i
 |i::r,f=>λw=>f i w/\VM r f w
def quietAt(P:Program)(ops:Array Oper)(i:Nat):Bool:=match ops[i]? with|some o=>Nat.blt (cls P o.op) 2|none=>false
def Qz(F:Fn)(e:Env)(i:Nat)(o:Oper)(S:zD)(K:zD->VK):WK:=
 match o.op with
 | .load t x=>match ev e x with
   |some (.pointer (some a))=>wS F.P t a λcs v=>K ((i,a,cs)::S) v
   |_=>no
 |op=>tZ F.P F.T F.E e op o.type (K S)
def guarded(ops:Array Oper)(o:Oper)(e:Env)(run skip:Env->WK):WK:=
 match o.guard with
 |none=>run e
 |some (j,want)=>match LG ops j with
  |none=>no
  |some d=>match lk e d with
   |some (.bool b)=>br b (bif IX true want then run ((d,.bool true)::e) else skip ((d,.bool true)::e))
                     (bif IX false want then run ((d,.bool false)::e) else skip ((d,.bool false)::e))
   |some (.tuple _)=>skip e
   |_=>no
def q6(F:Fn)(ops:Array Oper)(K:Env->WK):Nat->Array Bool->zD->Env->WK
 |0,listed,_,e=>match Region.ready .any ops listed with|[]=>K e|_=>no
 |f+1,listed,S,e=>match Region.ready .any ops listed with
  |[]=>K e
  |r::rs=>match(r::rs).find? (quietAt F.P ops) with
   |some i=>match ops[i]? with
    |some o=>bif Region.free .any ops listed i then
              guarded ops o e (λe=>Qz F e i o S λS v=>pt F.n F.C e o.dst v (q6 F ops K f (listed.setIfInBounds i true) S))
               (λe=>pt F.n F.C e o.dst undef (q6 F ops K f (listed.setIfInBounds i true) S))
     else no
    |none=>no
   |none=>VM (r::rs) λi=>match ops[i]? with
    |some o=>guarded ops o e (λe=>tZ F.P F.T F.E e o.op o.type λv=>jA (stays o S) (pt F.n F.C e o.dst v (q6 F ops K f (listed.setIfInBounds i true) (stays o S))))
              (λe=>pt F.n F.C e o.dst undef (q6 F ops K f (listed.setIfInBounds i true) S))
    |none=>no
def key:Code->Nat
 | .region i _ _=>i
 | .seq a _=>key a
 | .block _ c=>key c
 | .cond _ a _=>key a
 | .loop c=>key c
 | .scope c=>key c
 |_=>0
def Kn:List (Nat×List (Nat×Value))->Nat->Option (List (Nat×Value))
 |[],_=>none
 |(k,l)::r,i=>bif afi k i then some l else Kn r i
def rL(e:Env):List (Nat×Value)->Option (LV)
 |[]=>some []
 |(t,z)::r=>match lk e t with
  |some v=>bif fits z v then(match rL e r with|some vs=>some (v::vs)|none=>none) else none
  |none=>none
def wg:List (Nat×Value)->LV->Env->Env
 |(t,_)::l,v::vs,C=>(t,v)::wg l vs C
 |_,_,C=>C
def KE(K:Env->WK)(Q:Exit->Env->WK):Exit->Env->WK
 | .normal,e=>K e
 | .exit i,e=>Q (.exit i) e
 | .goto l,e=>Q (.goto l) e
 | .ret,e=>Q .ret e
 | .panic c,e=>Q (.panic c) e
 | .outgrown,e=>Q .outgrown e
def IU(i:Nat)(Q:Exit->Env->WK):Exit->Env->WK
 | .exit j,e=>bif afi j i then Q .normal e else Q (.exit j) e
 | .normal,e=>Q .normal e
 | .goto l,e=>Q (.goto l) e
 | .ret,e=>Q .ret e
 | .panic c,e=>Q (.panic c) e
 | .outgrown,e=>Q .outgrown e
def NT(l:List (Nat×Value))(I:LV->World->Prop)(μ:LV->World->Nat)(m:Nat)(e:Env):WK:=
 match rL e l with
 |some vs=>λw=>I vs w/\μ vs w<m
 |none=>no
def den(F:Fn):Code->(Exit->Env->WK)->Env->WK
 | .skip,Q,e=>Q .normal e
 | .ret,Q,e=>Q .ret e
 | .exit i,Q,e=>Q (.exit i) e
 | .seq x y,Q,e=>den F x (KE (den F y Q) Q) e
 | .cond c x y,Q,e=>match ev e c with
   |some (.bool b)=>br b (den F x Q e) (den F y Q e)
   |_=>no
 | .block i c,Q,e=>den F c (IU i Q) e
 | .loop c,Q,e=>match Kn F.EW (key c) with
   |some l=>match rL e l with
    |some vs=>λw=>∃(I:LV->World->Prop)(μ:LV->World->Nat),I vs w/\
               BY (l.map (·.2)) λus=>∀w,I us w->den F c (KE (NT l I μ (μ us w)) Q) (wg l us F.C) w
    |none=>no
   |none=>no
 | .region _ ops draw,Q,e=>bif draw then
                            (bif Region.noSelect ops then tick (q6 F ops (Q .normal) ops.size (ae7 ops.size false) [] e) else no)
   else tT F ops ops.toList (Q .normal) e
 |_,_,_=>no
structure Sub(n:Nat)(e:Env)(a:Act):Prop where
 size:a.tmps.size=n
 defers:a.defers=[]
 get:∀t v,lk e t=some v->a.tmps[t]?=some v
def Sub.eval{n:Nat}{e:Env}{a:Act}(h:Sub n e a){x:Operand}{v:Value}(hx:ev e x=some v):a.eval x=v:=by
 cases x with
 |tmp t=>simp only[ev] at hx;simp[Act.eval,h.get t v hx]
 |const u=>simp only[ev] at hx;cases hx;rfl
 |global g=>simp only[ev] at hx;cases hx;rfl
 |func f=>simp only[ev] at hx;cases hx;rfl
def Sub.Tf{n:Nat}{e:Env}{a:Act}(h:Sub n e a):∀{xs:List Operand} {vs:LV},LL e xs=some vs->xs.map a.eval=vs
 |[],vs,hx=>by simp only[LL] at hx;cases hx;rfl
 |x::xs,vs,hx=>by
  simp only[LL] at hx;cases h1:ev e x with
  |none=>simp[h1] at hx
  |some v=>
   cases h2:LL e xs with
   |none=>simp[h1,h2] at hx
   |some us=>
    simp only[h1,h2,aeh.injEq] at hx;subst hx;simp only[aez,h.eval h1,h.Tf h2]
def Sub.EL{n:Nat}{e:Env}{a:Act}(h:Sub n e a){xs:Array Operand}{vs:LV}(hx:LL e xs.toList=some vs):xs.map a.eval=⟨vs⟩:=by
 have:=h.Tf hx;rw[<-Array.toList_map] at this;cases hh:xs.map a.eval
 simp only[hh] at this;subst this
 rfl
def Sub.IB{n:Nat}{e:Env}{a:Act}(h:Sub n e a):∀{xs:List (Nat×Operand)} {vs:List (Nat×Value)},EM e xs=some vs->xs.map (λp=>(p.1,a.eval p.2))=vs
 |[],vs,hx=>by simp only[EM] at hx;cases hx;rfl
 |(i,x)::xs,vs,hx=>by
  simp only[EM] at hx;cases h1:ev e x with
  |none=>simp[h1] at hx
  |some v=>
   cases h2:EM e xs with
   |none=>simp[h1,h2] at hx
   |some us=>
    simp only[h1,h2,aeh.injEq] at hx;subst hx;simp only[aez,h.eval h1,h.IB h2]
def sO(e:Env)(d t:Nat)(v:Value):lk ((d,v)::e) t=if d=t then some v else lk e t:=by
 simp only[lk];by_cases h:d=t
 ·subst h;simp
 ·have h':d.beq t=false:=by
   cases hh:d.beq t with
   |true=>exact absurd (aex hh) h
   |false=>rfl
  simp[h,h']
def Sub.put{n:Nat}{e:Env}{a:Act}(h:Sub n e a){d:Nat}(hd:d<n)(v:Value):Sub n ((d,v)::e) (a.put (some d) v):=by
 refine⟨by simp[Act.put,h.size],by simp[Act.put,h.defers],λt u ht=>?_⟩;rw[sO] at ht;simp only[Act.put];split at ht
 ·rename_i X9;subst X9;cases ht
  rw[Array.getElem?_setIfInBounds_self];simp[h.size,hd]
 ·rename_i X9;rw[Array.getElem?_setIfInBounds_ne X9];exact h.get t u ht
def Sub.again{n:Nat}{e:Env}{a:Act}(h:Sub n e a){d:Nat}{v:Value}(hd:lk e d=some v):Sub n ((d,v)::e) a:=by
 refine⟨h.size,h.defers,λt u ht=>?_⟩;rw[sO] at ht;split at ht
 ·rename_i X9;subst X9;cases ht;exact h.get _ _ hd
 ·exact h.get t u ht
def To(P:Program)(s:Sem Next)(w:World)(K:VK):Prop:=
 (∃v w',s.run P w=.ok (.value v) w'/\K v w')\/(∃w',s.run P w=.ok .skip w'/\K undef w')\/
 (∃g args w',s.run P w=.ok (.enter g args) w'/\Calls P g args w' λe WJ=>∃v,e=.returned v/\K v WJ)
def Pure(P:Program)(s:Sem Next)(w:World)(K:VK):Prop:=∃v,(∀w',s.run P w'=.ok (.value v) w')/\K v w
def Pure.to{P:Program}{s:Sem Next}{w:World}{K:VK}(h:Pure P s w K):To P s w K:=
 let⟨v,hr,hk⟩:=h;.inl ⟨v,w,hr w,hk⟩
def PV(P:Program)(s:Sem Value)(w:World)(K:VK):Prop:=∃v,(∀w',s.run P w'=.ok v w')/\K v w
def PV.pure{P:Program}{s:Sem Value}{w:World}{K:VK}(h:PV P s w K):Pure P (do pure (.value (<-s))) w K:=by
 obtain⟨v,hr,hk⟩:=h;exact⟨v,λw'=>by simp[hr w'],hk⟩
section
variable {P:Program} {K:VK} {w:World}
def dF{t:TypeId}{d:TypeDesc}(h:P.underlying t=some d)(w:World):(underlying t).run P w=.ok d w:=by simp[underlying,h]
def yf{op:BinOp}{k:IntKind}{x y:Int}{t:TypeId}(h:Bn op k x y K w):PV P (binOp op t (.int k x) (.int k y)) w K:=by
 cases op<;>simp only[Bn,a8] at h<;>first
  |exact⟨_,λw'=>by simp[binOp,Op.intArith,Op.intBits,Op.intCmp,bC];done,h⟩
  |(obtain⟨h1,h2⟩:=h
    refine⟨_,λw'=>?_,h2⟩
    simp only[binOp,Op.intDiv,Op.shift,shl,shr,ne_eq,not_true,if_false]
    rw[if_neg (by omega)]
    rfl)
def KA{op:BinOp}{x y:BA}{t:TypeId}(h:HR op x y K w):PV P (binOp op t (.string x) (.string y)) w K:=by
 cases op<;>simp only[HR,a8,no] at h
 case add=>
  refine⟨_,λw'=>?_,h.2⟩;have h1: ¬(((x.size+y.size:Nat):Int)>adU.max):=by
   have:=h.1;have e:adU.max=9223372036854775807:=by decide
   rw[e];omega
  simp only[binOp,Op.stringOp];rw[if_neg h1]
  rfl
 case eql=>exact⟨_,λw'=>rfl,h⟩
 case neq=>exact⟨_,λw'=>rfl,h⟩
def IC{op:BinOp}{t:TypeId}{x y:Operand}{a b:Value}(hn:(a=.nilIface->False))(hg:∀xs ys,a=.agg xs->b=.agg ys->P.eqGuardType P.depth t=false)(w:World):
 (eqGuard op t x y a b).run P w=.ok () w:=by
 cases op<;>try rfl
 all_goals
  cases a<;>cases b<;>first
   |rfl
   |exact(hn rfl).elim
   |(rename_i xs ys
     have:=hg _ _ rfl rfl
     simp[eqGuard,this])
def HY{t d:TypeId}(h:P.underlying t=some (.pointer d))(p:OA)(w:World):(Op.equal t (.pointer p) (.pointer none)).run P w=.ok p.isNone w:=by
 show(Op.equalIn (9999+1) t _ _).run P w=_;unfold Op.equalIn;cases p<;>simp[underlying,h]
def KH{t d:TypeId}(h:P.underlying t=some (.slice d))(p:OA)(n c m e:Nat)(w:World):(Op.equal t (.slice p n c) (.slice none m e)).run P w=.ok p.isNone w:=by
 show(Op.equalIn (9999+1) t _ _).run P w=_;unfold Op.equalIn;cases p<;>simp[underlying,h]
def FQ{t:TypeId}(h:P.underlying t=some .bool)(a b:Bool)(w:World):(Op.equal t (.bool a) (.bool b)).run P w=.ok (a==b) w:=by
 show(Op.equalIn (9999+1) t _ _).run P w=_;unfold Op.equalIn;simp[underlying,h]
def og(P:Program)(E:Po):Prop:=∀t zs,DH E t=some zs->P.eqGuardType P.depth t=false/\
 ∀xs ys,kS zs xs=true->kS zs ys=true->∀w:World,(Op.equal t (.agg ⟨xs⟩) (.agg ⟨ys⟩)).run P w=.ok (fq xs ys) w
def L5{E:Po}(hE:og P E){op:BinOp}{t:TypeId}{x y:Operand}{a b:Value}(h:IV P E op t a b K w):PV P (do eqGuard op t x y a b;binOp op t a b) w K:=by
 have main:(a=.nilIface->False)->(∀xs ys,a=.agg xs->b=.agg ys->P.eqGuardType P.depth t=false)->PV P (binOp op t a b) w K->PV P (do eqGuard op t x y a b;binOp op t a b) w K:=by
  intro h1 h2 ⟨v,hv,hk⟩;refine⟨v,λw'=>?_,hk⟩;rw[Sem.run_bind,IC h1 h2];exact hv w'
 unfold IV at h;split at h
 ·refine main (by simp) (by simp) ?_;split at h
  ·exact yf (t:=t) h
  ·exact yf (t:=t) h
  ·rename_i k a k' b op' _ _;by_cases hk:k=k'
   ·subst hk;simp only[decide_true,cond_true] at h;exact yf h
   ·simp[hk,no] at h
 ·exact main (by simp) (by simp) (KA h)
 ·refine main (by simp) (by simp) ?_;cases hu:P.underlying t with
  |none=>simp only[hu,no] at h
  |some d=>
   cases d<;>cases op<;>simp only[hu,no] at h<;>exact⟨_,λw'=>by simp[binOp,FQ hu],h⟩
 ·refine main (by simp) (by simp) ?_;cases hu:P.underlying t with
  |none=>simp only[hu,no] at h
  |some d=>
   cases d<;>cases op<;>simp only[hu,no] at h<;>exact⟨_,λw'=>by simp[binOp,HY hu],h⟩
 ·refine main (by simp) (by simp) ?_;cases hu:P.underlying t with
  |none=>simp only[hu,no] at h
  |some d=>
   cases d<;>cases op<;>simp only[hu,no] at h<;>exact⟨_,λw'=>by simp[binOp,KH hu],h⟩
 ·rename_i xs ys;cases he:DH E t with
  |none=>simp only[he,no] at h
  |some zs=>
   obtain⟨hg,heq⟩:=hE t zs he;cases op<;>simp only[he,no] at h<;>(
    obtain⟨⟨h1,h2⟩,hk⟩:=h
    refine main (by simp) (λ_ _ _ _=>hg) ⟨_,λw'=>?_,hk⟩
    have hr:=heq _ _ h1 h2 w'
    rw[show ∀z:Array Value,(⟨z.toList⟩:Array Value)=z from λz=>rfl,show ∀z:Array Value,(⟨z.toList⟩:Array Value)=z from λz=>rfl] at hr
    simp only[binOp,Sem.run_bind]
    rw[hr];rfl)
 ·exact h.elim
def MR{op:UnOp}{a:Value}(h:MS op a K w):PV P (Op.unary op a) w K:=by
 unfold MS at h;split at h
 ·exact⟨_,λw'=>rfl,h⟩
 ·exact⟨_,λw'=>rfl,h⟩
 ·exact⟨_,λw'=>rfl,h⟩
 ·exact h.elim
def run_convert_int{s d:TypeId}{sd:TypeDesc}{k:IntKind}(hs:P.underlying s=some sd)(hd:P.underlying d=some (.int k))(j:IntKind)(n:Int)(w:World):
 (convert s d (.int j n)).run P w=.ok (.int k (k.wrap n)) w:=by
 simp[convert,underlying,hs,hd,Conv.intToInt]
def run_sliceBound{x:Int}{y:Nat}{code:BoundsCode}(h:0<=x/\x<=y)(k:IntKind)(w:World):(Instr.sliceBound (.int k x) y code).run P w=.ok x.toNat w:=by
 simp[Instr.sliceBound,asIntOf,h.1,h.2]
end
section
variable {P:Program} {K:VK} {w:World}
def BI(v:Option Value)(n:Option Int):Prop:=match v,n with
 |none,none=>True
 |some v,some n=>∃k,v=.int k n
 |_,_=>False
def Sub.PR{n:Nat}{e:Env}{a:Act}(h:Sub n e a){x:Option Operand}{r:Option Int}(hx:PR e x=some r):BI (x.map a.eval) r:=by
 cases x with
 |none=>simp only[Den.PR,aeh.injEq] at hx;subst hx;trivial
 |some x=>
  simp only[Den.PR] at hx;cases h1:ev e x with
  |none=>simp[h1] at hx
  |some v=>
   cases v<;>simp[h1] at hx
   subst hx;exact⟨_,by rw[h.eval h1]⟩
def WE(len cap:Nat)(l h:Option Int):Prop:=match h with
 |none=>(match l with|none=>True|some l=>0<=l/\l<=len)
 |some h=>(0<=h/\h<=cap)/\(match l with|none=>True|some l=>0<=l/\l<=h)
def bL(l:Option Int):Nat:=match l with|none=>0|some l=>l.toNat
def bH(h:Option Int)(len:Nat):Nat:=match h with|none=>len|some h=>h.toNat
def vE(sl:Bool){len cap:Nat}{lo hi:Option Value}{l h:Option Int}(yY:BI lo l)(yZ:BI hi h)
 (ok:WE len cap l h)(w:World):
 (Instr.sliceBounds sl len cap lo hi none).run P w=.ok (bL l,bH h len,cap) w:=by
 unfold WE at ok;cases h with
 |none=>
  cases hi with
  |some v=>exact yZ.elim
  |none=>
   cases l with
   |none=>
    cases lo with
    |some v=>exact yY.elim
    |none=>simp[Instr.sliceBounds,bL,bH]
   |some l=>
    cases lo with
    |none=>exact yY.elim
    |some v=>
     obtain⟨k,rfl⟩:=yY;simp only at ok;simp[Instr.sliceBounds,bL,bH,run_sliceBound ok]
 |some h=>
  cases hi with
  |none=>exact yZ.elim
  |some v=>
   obtain⟨k,rfl⟩:=yZ;simp only at ok;obtain⟨ok1,ok2⟩:=ok;cases l with
   |none=>
    cases lo with
    |some v=>exact yY.elim
    |none=>simp[Instr.sliceBounds,bL,bH,run_sliceBound ok1]
   |some l=>
    cases lo with
    |none=>exact yY.elim
    |some v=>
     obtain⟨k,rfl⟩:=yY;have ok3:0<=l/\l<=(h.toNat:Nat):=⟨ok2.1,by have:=ok2.2;omega⟩;simp[Instr.sliceBounds,bL,bH,run_sliceBound ok1,run_sliceBound ok3]
def KD{s:BA}{l h:Option Int}{K:BA->WK}(hh:iX s l h K w):
 WE s.size s.size l h/\K (s.extract (bL l) (bH h s.size)) w:=by
 unfold WE bL bH;unfold iX a8 at hh;cases h<;>cases l<;>simp only at hh⊢
 ·exact⟨trivial,hh⟩
 ·exact hh
 ·exact⟨⟨hh.1,trivial⟩,hh.2⟩
 ·exact⟨⟨hh.1,hh.2.1⟩,hh.2.2⟩
def FN{b:OA}{len cap size:Nat}{l h:Option Int}{K:OA->Nat->Nat->WK}(hh:oo b len cap size l h K w):
 WE len cap l h/\K (tR b cap (bL l) size) (bH h len-bL l) (cap-bL l) w:=by
 unfold WE bL bH;unfold oo a8 at hh;cases h<;>cases l<;>simp only at hh⊢
 ·exact⟨trivial,hh⟩
 ·exact hh
 ·exact⟨⟨hh.1,trivial⟩,hh.2⟩
 ·exact⟨⟨hh.1,hh.2.1⟩,hh.2.2⟩
def run_sizeOf{t:TypeId}{i:TypeInfo}(h:P.info? t=some i)(w:World):(sizeOf t).run P w=.ok i.size w:=by simp[sizeOf,typeInfo,h]
def FM{t:TypeId}{x:Value}{lo hi:Option Value}{l h:Option Int}(yY:BI lo l)(yZ:BI hi h)(hh:AE P t x l h K w):
 PV P (Instr.sliceAt t x lo hi none) w K:=by
 unfold AE at hh;generalize hu:P.underlying t=u at hh;split at hh
 ·rename_i s;obtain⟨h1,h2⟩:=KD hh;refine⟨_,λw'=>?_,h2⟩;simp[Instr.sliceAt,Instr.slice,underlying,hu,vE false yY yZ h1]
 ·rename_i e b n c;cases qJ:P.info? e with
  |none=>simp only[qJ,no] at hh
  |some i=>
   simp only[qJ] at hh;obtain⟨h1,h2⟩:=FN hh;refine⟨_,λw'=>?_,h2⟩;simp only[Instr.sliceAt,Instr.slice,Sem.run_bind,dF hu,Result.andThen_ok,vE true yY yZ h1,run_sizeOf qJ,Sem.run_pure,tR]
 ·rename_i n e a;cases qJ:P.info? e with
  |none=>simp only[qJ,no] at hh
  |some i=>
   simp only[qJ] at hh;obtain⟨h1,h2⟩:=FN hh;refine⟨_,λw'=>?_,h2⟩;simp only[Instr.sliceAt,Sem.run_bind,dF hu,Result.andThen_ok,Instr.sureAddr,Sem.run_pure,vE false yY yZ h1,run_sizeOf qJ,tR];split<;>rfl
 ·exact hh.elim
def pO{z v:Value}{K:VK}(h:HG z K v w):K v w:=by
 unfold HG at h;split at h
 ·obtain⟨n,rfl,h⟩:=h;exact h
 ·obtain⟨n,rfl,h⟩:=h;exact h
 ·obtain⟨n,rfl,h⟩:=h;exact h
 ·obtain⟨n,rfl,h⟩:=h;exact h
 ·obtain⟨b,n,c,rfl,h⟩:=h;exact h
 ·obtain⟨cs,rfl,_,h⟩:=h;exact h
 ·exact h
def MF{z v:Value}{K:VK}(h:xT z K v w):K v w:=by
 unfold xT at h;split at h
 ·rename_i zs;generalize hz:zs.toList=l at h;split at h
  ·obtain⟨rfl,h⟩:=h;exact h
  ·obtain⟨a,b,rfl,h⟩:=h;have h1:=pO (K:=λa=>HG _ (λb=>K (Value.tuple ⟨[a,b]⟩)) b) h;exact pO (K:=λb=>K (Value.tuple ⟨[a,b]⟩)) h1
  ·obtain⟨a,b,c,rfl,h⟩:=h;have h1:=pO (K:=λa=>HG _ (λb=>HG _ (λc=>K (Value.tuple ⟨[a,b,c]⟩)) c) b) h;have h2:=pO (K:=λb=>HG _ (λc=>K (Value.tuple ⟨[a,b,c]⟩)) c) h1;exact pO (K:=λc=>K (Value.tuple ⟨[a,b,c]⟩)) h2
  ·exact h.elim
 ·exact pO h
def zw{t:TypeId}{x i:Value}(hh:sV P t x i K w):PV P (Instr.indexAt t x i) w K:=by
 unfold sV at hh;generalize hu:P.underlying t=u at hh;split at hh
 ·rename_i e b n c k j;cases qJ:P.info? e with
  |none=>simp only[qJ,no] at hh
  |some i=>
   simp only[qJ] at hh;obtain⟨a,rfl,hb,hk⟩:=hh;refine⟨_,λw'=>?_,hk⟩;simp[Instr.indexAt,asIntOf,hb.1,hb.2,Sem.run_bind,underlying,hu,sizeOf,typeInfo,qJ]
 ·rename_i n e a k j;cases qJ:P.info? e with
  |none=>simp only[qJ,no] at hh
  |some i=>
   simp only[qJ] at hh;obtain⟨hb,hk⟩:=hh;refine⟨_,λw'=>?_,hk⟩;simp[Instr.indexAt,asIntOf,hb.1,hb.2,Sem.run_bind,underlying,hu,sizeOf,typeInfo,qJ,Instr.sureAddr]
 ·exact hh.elim
def sU{t:TypeId}{d:TypeDesc}(h:P.underlying t=some d)(w:World):(isAgg t).run P w=.ok (pH d) w:=by
 simp only[isAgg,Sem.run_bind,dF h,Result.andThen_ok,pH];split<;>simp_all
def wB{t:TypeId}{d:TypeDesc}{i:TypeInfo}(h:P.underlying t=some d)(hi:P.info? t=some i)(ha:pH d=true)(cs:Array Value)(off:Nat)(w:World):
 (part t cs off).run P w=.ok (.agg ⟨(cs.toList.drop off).take i.size⟩) w:=by
 simp only[part,Sem.run_bind,sU h,Result.andThen_ok,ha,if_true,run_sizeOf hi,Sem.run_pure]
 congr 3
 apply afz;simp[List.take_drop]
def wA{t:TypeId}{d:TypeDesc}(h:P.underlying t=some d)(ha:pH d=false){cs:Array Value}{off:Nat}{v:Value}(hv:cs.toList[off]?=some v)(w:World):
 (part t cs off).run P w=.ok v w:=by
 have yV:cs[off]?=some v:=by simpa using hv
 simp[part,sU h,ha,yV]
def K3(s:BA)(n:Nat):s[n]?=s.data.toList[n]?:=by
 by_cases h:n<s.size
 ·rw[getElem?_pos s n h];have h2:n<s.data.toList.length:=by simpa using h
  rw[adX h2];simp[ByteArray.getElem_eq_getElem_data]
 ·rw[getElem?_neg s n h];rw[aeZ];simp only[Array.length_toList];have:s.data.size=s.size:=rfl;omega
def Gu{t:TypeId}{x i:Value}(hh:Bo P t x i K w):PV P (Instr.index t x i) w K:=by
 unfold Bo at hh;generalize hu:P.underlying t=u at hh;split at hh
 ·rename_i s k j;obtain⟨c,⟨h0,hc⟩,hk⟩:=hh;refine⟨_,λw'=>?_,hk⟩;have GK:s[j.toNat]?=some c:=by rw[K3];exact hc
  simp[Instr.index,asIntOf,underlying,hu,h0,GK]
 ·rename_i n e cs k j;cases hd:P.underlying e with
  |none=>simp only[hd,no] at hh
  |some d=>
   cases qJ:P.info? e with
   |none=>simp only[hd,qJ,no] at hh
   |some i=>
    simp only[hd,qJ] at hh;cases ha:pH d with
    |true=>
     simp only[ha,cond_true] at hh;obtain⟨hb,hk⟩:=hh;refine⟨_,λw'=>?_,hk⟩;simp[Instr.index,asIntOf,dF hu,hb.1,hb.2,run_sizeOf qJ,wB hd qJ ha]
    |false=>
     simp only[ha,cond_false] at hh;cases hs:afi i.size 1 with
     |false=>simp[hs,no] at hh
     |true=>
      have cV:i.size=1:=aex hs;simp only[hs,cond_true] at hh;cases hz:i.zero with
      |none=>simp only[hz,no] at hh
      |some z=>
       simp only[hz] at hh;obtain⟨v,⟨h0,h1,hv⟩,hk⟩:=hh;refine⟨v,λw'=>?_,pO hk⟩;simp[Instr.index,asIntOf,dF hu,h0,h1,run_sizeOf qJ,cV,wA hd ha hv]
 ·exact hh.elim
def GQ{t:TypeId}{x:Value}{f:Nat}(hh:BC P t x f K w):PV P (Instr.field t x f) w K:=by
 unfold BC at hh;generalize hu:P.underlying t=u at hh;split at hh
 ·rename_i fs cs;cases hf:fs[f]? with
  |none=>simp only[hf,no] at hh
  |some fl=>
   simp only[hf] at hh;cases hd:P.underlying fl.type with
   |none=>simp only[hd,no] at hh
   |some d=>
    cases qJ:P.info? fl.type with
    |none=>simp only[hd,qJ,no] at hh
    |some i=>
     simp only[hd,qJ] at hh;cases ha:pH d with
     |true=>
      simp only[ha,cond_true] at hh;refine⟨_,λw'=>?_,hh⟩;simp[Instr.field,dF hu,hf,asAgg,wB hd qJ ha]
     |false=>
      simp only[ha,cond_false] at hh;cases hz:i.zero with
      |none=>simp only[hz,no] at hh
      |some z=>
       simp only[hz] at hh;obtain⟨v,hv,hk⟩:=hh;refine⟨v,λw'=>?_,pO hk⟩;simp[Instr.field,dF hu,hf,asAgg,wA hd ha hv]
 ·exact hh.elim
def zB{t:TypeId}{x:Value}{f:Nat}(hh:s7 P t x f K w):PV P (Instr.fieldAt t x f) w K:=by
 unfold s7 at hh;generalize hu:P.underlying t=u at hh;split at hh
 ·rename_i fs a;cases hf:fs[f]? with
  |none=>simp only[hf,no] at hh
  |some fl=>
   simp only[hf] at hh;cases qJ:P.info? fl.type with
   |none=>simp only[qJ,no] at hh
   |some i=>
    simp only[qJ] at hh;cases hs:afi i.size 0 with
    |true=>simp[hs,no] at hh
    |false=>
     have cV:i.size≠0:=λh=>by simp[h] at hs
     simp only[hs,cond_false] at hh;refine⟨_,λw'=>?_,hh⟩;simp[Instr.fieldAt,dF hu,hf,Instr.sureAddr,fieldPlace,run_sizeOf qJ,cV]
 ·exact hh.elim
def Di{t ty:TypeId}{ts:Array TypeId}{x:Value}(ht:ts.toList=[t]\/∃r,ts.toList=t::r)(hh:Ij P t x K w):PV P (Builtin.len_ ts ty #[x]) w K:=by
 have h0:ts[0]?=some t:=by
  cases ts
  rcases ht with h|⟨r,h⟩<;>simp only at h<;>subst h<;>rfl
 unfold Ij at hh;generalize hu:P.underlying t=u at hh;split at hh
 ·exact⟨_,λw'=>by simp[Builtin.len_,h0,dF hu,goInt],hh⟩
 ·exact⟨_,λw'=>by simp[Builtin.len_,h0,dF hu,goInt],hh⟩
 ·exact⟨_,λw'=>by simp[Builtin.len_,h0,dF hu,goInt],hh⟩
 ·exact hh.elim
def yb{k:IntKind}:∀{x:Int} {l:LV} {m:Int},mU x l=some m->∀w:World,(l.foldlM Builtin.min2 (.int k x)).run P w=.ok (.int k m) w
 |x,[],m,h,w=>by simp only[mU,aeh.injEq] at h;subst h;rfl
 |x,.int j y::r,m,h,w=>by
  simp only[mU] at h;have:=yb (k:=k) h w;simp only[List.foldlM_cons,Sem.run_bind,Builtin.min2,Sem.run_pure,Result.andThen_ok];exact this
 |x,.bool _::_,m,h,w=>by simp[mU] at h
 |x,.float _ _::_,m,h,w=>by simp[mU] at h
 |x,.complex _ _ _::_,m,h,w=>by simp[mU] at h
 |x,.string _::_,m,h,w=>by simp[mU] at h
 |x,.pointer _::_,m,h,w=>by simp[mU] at h
 |x,.slice _ _ _::_,m,h,w=>by simp[mU] at h
 |x,.map _::_,m,h,w=>by simp[mU] at h
 |x,.chan _::_,m,h,w=>by simp[mU] at h
 |x,.func _ _ _::_,m,h,w=>by simp[mU] at h
 |x,.nilFunc::_,m,h,w=>by simp[mU] at h
 |x,.iface _ _::_,m,h,w=>by simp[mU] at h
 |x,.nilIface::_,m,h,w=>by simp[mU] at h
 |x,.agg _::_,m,h,w=>by simp[mU] at h
 |x,.tuple _::_,m,h,w=>by simp[mU] at h
def Dg{k:IntKind}:∀{l:LV} {x:Int} {m:Int},Bf x l=some m->∀w:World,(l.foldlM Builtin.max2 (.int k x)).run P w=.ok (.int k m) w:=by
 intro l
 induction l with
 |nil=>intro x m h w;simp only[Bf,aeh.injEq] at h;subst h;rfl
 |cons v r ih=>
  intro x m h w;cases v<;>simp only[Bf,reduceCtorEq] at h
  rename_i j y;simp only[List.foldlM_cons,Sem.run_bind,Builtin.max2,Sem.run_pure,Result.andThen_ok];exact ih h w
end
section
variable {P:Program} {K:VK} {w:World}
def gV(v:Value):v.cells.toList=cU v:=by cases v<;>rfl
def DE:∀(cs:LV)(A B C:LV)(k off:Nat),A.length=off+k->B.length=cs.length->
 (cs.zipIdx k).foldl (λ(z:Array Value)(p:Value×Nat)=>z.setIfInBounds (off+p.2) p.1) ⟨A++B++C⟩=⟨A++cs++C⟩
 |[],A,B,C,k,off,h1,h2=>by
  have:B=[]:=List.eq_nil_of_length_eq_zero h2;subst this;rfl
 |c::cs,A,B,C,k,off,h1,h2=>by
  cases B with
  |nil=>simp at h2
  |cons b B=>
   simp only[List.zipIdx_cons,List.foldl_cons];have e:(⟨A++(b::B)++C⟩:Array Value).setIfInBounds (off+k) c=⟨(A++[c])++B++C⟩:=by
    apply afz;rw[Array.toList_setIfInBounds];simp only[ad5,afa,aeA];rw[<-h1,List.set_append];simp
   rw[e,DE cs (A++[c]) B C (k+1) off (by simp;omega) (by simpa using h2)];simp
def LK(A B C:LV)(v:Value)(off:Nat)(h1:A.length=off)(h2:B.length=(cU v).length):
 v.cells.zipIdx.foldl (λ(z:Array Value)(p:Value×Nat)=>z.setIfInBounds (off+p.2) p.1) ⟨A++B++C⟩=⟨A++cU v++C⟩:=by
 rw[<-Array.foldl_toList,Array.toList_zipIdx,gV];exact DE (cU v) A B C 0 off (by omega) h2
def sm(PL:List (Nat×Nat))(place:Nat->Option (Nat×Nat))(hp:∀j x,PL[j]?=some x->place j=some x)(zero:LV):
 ∀(fs:List (Nat×Nat))(at_ i:Nat)(done:LV)(ps:List (Nat×Value))(r:LV)(p:Prop),fs=PL.drop i->done.length=at_->at_<=zero.length->
  qB zero fs at_ i (ps.map λq=>(q.1,cU q.2))=some (r,p)->p->
  Instr.fill place ⟨done++zero.drop at_⟩ ps=some ⟨done++r⟩
 |[],at_,i,done,ps,r,p,xf,hd,hz,h,N3=>by
  simp only[qB] at h;cases hb:afi at_ zero.length with
  |false=>simp[hb] at h
  |true=>
   simp only[hb,cond_true] at h;have he:=aex hb;cases ps with
   |nil=>
    simp only[afw,aeh.injEq,Prod.mk.injEq] at h;obtain⟨rfl,_⟩:=h;simp[Instr.fill,he]
   |cons q ps=>simp at h
 |(off,n)::fs,at_,i,done,ps,r,p,xf,hd,hz,h,N3=>by
  simp only[qB] at h;have hPL:PL[i]?=some (off,n):=by
   have:(PL.drop i)[0]?=some (off,n):=by rw[<-xf];rfl
   simpa using this
  have X6:fs=PL.drop (i+1):=by
   have:(PL.drop i).tail=fs:=by rw[<-xf];rfl
   rw[<-this,List.tail_drop]
  cases hb:afi off at_ with
  |false=>simp[hb] at h
  |true=>
   simp only[hb,cond_true] at h;have he:=aex hb;subst he;have skip:∀r',qB zero fs (off+n) (i+1) (ps.map λq=>(q.1,cU q.2))=some (r',p)->r=(zero.drop off).take n++r'->off+n<=zero.length->Instr.fill place ⟨done++zero.drop off⟩ ps=some ⟨done++r⟩:=by
    intro r' h' hr hle;have:=sm PL place hp zero fs (off+n) (i+1) (done++(zero.drop off).take n) ps r' p X6 (by simp;omega) hle h' N3;rw[ad5,ad5] at this;rw[<-hr] at this;rw[<-this]
    congr 3
    rw[<-ae8,aer]
   have bound:∀(fs:List (Nat×Nat))(a i:Nat)(qs:List (Nat×LV))(x:LV×Prop),qB zero fs a i qs=some x->a<=zero.length:=by
    intro fs
    induction fs with
    |nil=>
     intro a i qs x hx;simp only[qB] at hx;cases hb:afi a zero.length with
     |false=>simp[hb] at hx
     |true=>exact Nat.le_of_eq (aex hb)
    |cons f fs ih=>
     intro a i qs x hx;obtain⟨o,m⟩:=f;simp only[qB] at hx;cases hb:afi o a with
     |false=>simp[hb] at hx
     |true=>
      simp only[hb,cond_true] at hx;have key:∀qs',(∃y,qB zero fs (a+m) (i+1) qs'=some y)->a<=zero.length:=λqs' ⟨y,hy⟩=>by have:=ih _ _ _ _ hy;omega
      cases qs with
      |nil=>
       cases hc:qB zero fs (a+m) (i+1) [] with
       |none=>simp[hc] at hx
       |some y=>exact key _ ⟨y,hc⟩
      |cons q qs=>
       obtain⟨j,cs⟩:=q;cases hj:afi i j with
       |true=>
        simp only[hj,cond_true] at hx;cases hc:qB zero fs (a+m) (i+1) qs with
        |none=>simp[hc] at hx
        |some y=>exact key _ ⟨y,hc⟩
       |false=>
        simp only[hj,cond_false] at hx;cases hc:qB zero fs (a+m) (i+1) ((j,cs)::qs) with
        |none=>simp[hc] at hx
        |some y=>exact key _ ⟨y,hc⟩
   cases ps with
   |nil=>
    simp only[afw] at h skip;cases hc:qB zero fs (off+n) (i+1) [] with
    |none=>simp[hc] at h
    |some y=>
     obtain⟨r',p'⟩:=y;simp only[hc,aeh.injEq,Prod.mk.injEq] at h;obtain⟨h1,h2⟩:=h;subst h2;exact skip r' hc h1.symm (bound _ _ _ _ _ hc)
   |cons q ps=>
    obtain⟨j,v⟩:=q;simp only[aez] at h skip;cases hj:afi i j with
    |true=>
     simp only[hj,cond_true] at h;have HB:=aex hj;subst HB;cases hc:qB zero fs (off+n) (i+1) (ps.map λq=>(q.1,cU q.2)) with
     |none=>simp[hc] at h
     |some y=>
      obtain⟨r',p'⟩:=y;simp only[hc,aeh.injEq,Prod.mk.injEq] at h;obtain⟨h1,h2⟩:=h;subst h2;obtain⟨hlen,hp'⟩:=N3;have hle:=bound _ _ _ _ _ hc;have:=sm PL place hp zero fs (off+n) (i+1) (done++cU v) ps r' p' X6 (by simp;omega) hle hc hp';rw[ad5,ad5,h1] at this;simp only[Instr.fill,hp i _ hPL];have ou:v.cells.size=n:=by rw[<-hlen,<-gV];simp
      have Hy: ¬((decide (v.cells.size≠n)||decide (off+v.cells.size>(⟨done++zero.drop off⟩:Array Value).size))=true):=by
       simp[ou];omega
      rw[if_neg Hy];have e:(⟨done++zero.drop off⟩:Array Value)=⟨done++(zero.drop off).take n++zero.drop (off+n)⟩:=by
       rw[ad5,<-ae8,aer]
      rw[e,LK done ((zero.drop off).take n) (zero.drop (off+n)) v off hd (by simp[hlen];omega)];rw[<-this,ad5]
    |false=>
     simp only[hj,cond_false] at h;cases hc:qB zero fs (off+n) (i+1) ((j,cU v)::ps.map λq=>(q.1,cU q.2)) with
     |none=>simp[hc] at h
     |some y=>
      obtain⟨r',p'⟩:=y;simp only[hc,aeh.injEq,Prod.mk.injEq] at h;obtain⟨h1,h2⟩:=h;subst h2;exact skip r' hc h1.symm (bound _ _ _ _ _ hc)
end
section
variable {P:Program} {K:VK} {w:World}
def A2(f:Field):Sem (Nat×Nat):=do pure (f.offset,<-sizeOf f.type)
def wJ:∀{fs:List Field} {pl:List (Nat×Nat)},sF P fs=some pl->∀w,(fs.mapM A2).run P w=.ok pl w
 |[],pl,h,w=>by simp only[sF,aeh.injEq] at h;subst h;rfl
 |f::fs,pl,h,w=>by
  simp only[sF] at h;cases hi:P.info? f.type with
  |none=>simp[hi] at h
  |some i=>
   cases hr:sF P fs with
   |none=>simp[hi,hr] at h
   |some r=>
    simp only[hi,hr,aeh.injEq] at h;subst h;have h1:(A2 f).run P w=.ok (f.offset,i.size) w:=by simp[A2,run_sizeOf hi]
    rw[List.mapM_cons,Sem.run_bind,h1,Result.andThen_ok,Sem.run_bind,wJ hr w];rfl
def sB{t:TypeId}{z:Value}(h:zeroOf P t=some z)(w:World):(zeroValue t).run P w=.ok z w:=by
 unfold zeroOf at h;cases hi:P.info? t with
 |none=>simp[hi] at h
 |some i=>
  simp only[hi] at h;simp[zeroValue,typeInfo,hi,h]
def G'{t:TypeId}{ps:List (Nat×Value)}(hh:BQ P t ps K w):PV P (Instr.build t ⟨ps⟩) w K:=by
 unfold BQ at hh;generalize hz:zeroOf P t=z at hh;generalize hu:P.underlying t=u at hh;split at hh
 ·rename_i z fs;cases hp:sF P fs.toList with
  |none=>simp only[hp,no] at hh
  |some pl=>
   simp only[hp] at hh;cases hc:qB z.toList pl 0 0 (ps.map λp=>(p.1,cU p.2)) with
   |none=>simp only[hc,no] at hh
   |some y=>
    obtain⟨cs,p⟩:=y;simp only[hc] at hh;obtain⟨N3,hk⟩:=hh;refine⟨_,λw'=>?_,hk⟩;have hm:(fs.mapM A2).run P w'=.ok ⟨pl⟩ w':=by
     rw[<-Array.toArray_toList (xs:=fs),List.mapM_toArray,Sem.run_map,wJ hp w'];rfl
    have hf:=sm pl ((⟨pl⟩:Array (Nat×Nat))[·]?) (λj x hx=>by simpa using hx) z.toList pl 0 0 [] ps cs p rfl rfl (ad6 _) hc N3;simp only[aeA,ae5] at hf;simp only[Instr.build,Sem.run_bind,sB hz,Result.andThen_ok,dF hu,Value.cells];rw[show(fs.mapM λf=>(do let a<-sizeOf f.type;pure (f.offset,a):Sem (Nat×Nat)))=fs.mapM A2 from rfl,hm];simp only[Result.andThen_ok];rw[hf];rfl
 ·rename_i z n e;cases hi:P.info? e with
  |none=>simp only[hi,no] at hh
  |some i=>
   simp only[hi] at hh;cases hc:qB z.toList ((aft n).map λj=>(j* i.size,i.size)) 0 0 (ps.map λp=>(p.1,cU p.2)) with
   |none=>simp only[hc,no] at hh
   |some y=>
    obtain⟨cs,p⟩:=y;simp only[hc] at hh;obtain⟨N3,hk⟩:=hh;refine⟨_,λw'=>?_,hk⟩;have hf:=sm ((aft n).map λj=>(j* i.size,i.size)) (λj=>some (j* i.size,i.size)) (λj x hx=>by
     rw[aeJ] at hx
     cases hr:(aft n)[j]? with
     |none=>simp[hr] at hx
     |some m=>
      have:m=j:=by
       rw[afq] at hr
       ·exact(aeh.inj hr).symm
       ·have:=(adZ.1 hr).1;simpa using this
      subst this;simpa [hr] using hx) z.toList _ 0 0 [] ps cs p rfl rfl (ad6 _) hc N3
    simp only[aeA,ae5] at hf;simp only[Instr.build,Sem.run_bind,sB hz,Result.andThen_ok,dF hu,Value.cells,run_sizeOf hi];rw[hf];rfl
 ·exact hh.elim
def sL{t:TypeId}{a:Addr}{K:LV->VK}(hh:wS P t a K w):
 ∃v cs,tB w a cs/\(∀w',tB w' a cs->(loadVar t a).run P w'=.ok v w')/\K cs v w:=by
 unfold wS at hh;cases hu:P.underlying t with
 |none=>simp only[hu,no] at hh
 |some d=>
  cases hi:P.info? t with
  |none=>simp only[hu,hi,no] at hh
  |some i=>
   simp only[hu,hi] at hh;cases ha:pH d with
   |true=>
    simp only[ha,cond_true] at hh;obtain⟨cs,hl,hH,hk⟩:=hh;refine⟨_,cs,hH,λw' hH'=>?_,hk⟩;simp only[loadVar,Sem.run_bind,sU hu,Result.andThen_ok,ha,if_true,run_sizeOf hi];rw[<-hl,run_loadCells_list w' a cs hH'];rfl
   |false=>
    simp only[ha,cond_false] at hh;cases hz:i.zero with
    |none=>simp only[hz,no] at hh
    |some z=>
     simp only[hz] at hh;obtain⟨v,hc,hk⟩:=hh;have a0:a.add 0=a:=by simp[Addr.add]
     refine⟨v,[v],λj u hj=>?_,λw' hH'=>?_,pO (K:=λv=>K [v] v) hk⟩
     ·cases j with
      |zero=>simp only[List.getElem?_cons_zero,aeh.injEq] at hj;subst hj;rw[a0];exact hc
      |succ j=>simp at hj
     ·have:=hH' 0 v rfl;rw[a0] at this;simp only[loadVar,Sem.run_bind,sU hu,Result.andThen_ok,ha,aeo,if_false,run_load,this]
def OK{a b:Addr}{v:Value}(h:∃o,w.cell? b=some o):∃o,(w.setCell a v).cell? b=some o:=by
 obtain⟨o,h⟩:=h;by_cases PO:a=b
 ·subst PO;exact⟨v,World.cell?_setCell_same w a v h⟩
 ·exact⟨o,by rw[World.cell?_setCell_other w a b v PO];exact h⟩
def th.tail{a:Addr}{i:Nat}{v:Value}{cs:LV}(h:th w a i (v::cs)):th (w.setCell (a.add i) v) a (i+1) cs:=by
 refine⟨λu hu=>h.1 u (ae1 _ hu),λj hj=>?_⟩;have:=h.2 (j+1) (by simp;omega);rw[show i+1+j=i+(j+1) from by omega];exact⟨OK this.1,by rw[World.frozen?_setCell];exact this.2⟩
def rM:∀(cs:LV)(a:Addr)(i:Nat)(w:World),th w a i cs->(storeCells a cs i).run P w=.ok () (vA w a i cs)
 |[],a,i,w,h=>rfl
 |v::cs,a,i,w,h=>by
  have h0:=h.2 0 (by simp);obtain⟨⟨o,ho⟩,hf⟩:=h0;simp only[aeT] at ho hf;simp only[storeCells,Sem.run_bind,run_store P w (a.add i) v .plain (h.1 v (by simp)),ho,hf,vA];exact rM cs a (i+1) _ h.tail
def Ce{t:TypeId}{a:Addr}{v:Value}(hh:AD P t a v K w):∃w',(storeVar t a v).run P w=.ok () w'/\K undef w':=by
 unfold AD at hh;cases hi:P.info? t with
 |none=>simp only[hi,no] at hh
 |some i=>
  simp only[hi] at hh;have one:v.cells.toList=[v]->(bif afi i.size 1 then st a v (K undef) else no) w->∃w',(storeVar t a v).run P w=.ok () w'/\K undef w':=by
   intro hv hh;cases hs:afi i.size 1 with
   |false=>simp[hs,no] at hh
   |true=>
    have cV:i.size=1:=aex hs;simp only[hs,cond_true] at hh;obtain⟨h1,⟨o,ho⟩,hf,hk⟩:=hh;have a0:a.add 0=a:=by simp[Addr.add]
    refine⟨_,?_,hk⟩;have ou:v.cells.size=1:=by rw[<-Array.length_toList,hv];rfl
    simp only[storeVar,Sem.run_bind,run_sizeOf hi,Result.andThen_ok,cV,ou,ne_eq,not_true,if_false,hv];have:=rM (P:=P) [v] a 0 w ⟨λu hu=>by simp at hu;subst hu;exact h1,λj hj=>by simp at hj;subst hj;simp only[aeT,a0];exact⟨⟨o,ho⟩,hf⟩⟩;simp only[vA,a0] at this;exact this
  split at hh
  ·rename_i cs;obtain⟨hl,hc,hk⟩:=hh;refine⟨_,?_,hk⟩;have Hz:cs.size=i.size:=by simpa using hl
   simp only[storeVar,Sem.run_bind,run_sizeOf hi,Result.andThen_ok,Value.cells,Hz,ne_eq,not_true,if_false];exact rM _ _ _ _ hc
  ·rename_i hv;refine one ?_ hh;cases v<;>first|rfl|exact absurd rfl (hv _)
end
section
variable {P:Program} {K:VK} {w:World}
def SV(P:Program)(s:Sem Value)(w:World)(K:VK):Prop:=∃v w',s.run P w=.ok v w'/\K v w'
def SV.to{s:Sem Value}(h:SV P s w K):To P (do pure (.value (<-s))) w K:=by
 obtain⟨v,w',hr,hk⟩:=h;exact .inl ⟨v,w',by simp[hr],hk⟩
def PV.sv{s:Sem Value}(h:PV P s w K):SV P s w K:=let⟨v,hr,hk⟩:=h;⟨v,w,hr w,hk⟩
def Xl{cs:LV}{t:TypeId}(h:mk cs (λr=>K (wI r)) w)(v:Value)(hv:cU v=cs):SV P (Instr.box t v) w K:=by
 refine⟨_,_,?_,h t⟩;have:v.cells=⟨cs⟩:=by rw[<-hv,<-gV]
 simp[Instr.box,newVar,newRow,this,wI]
def OT{t:TypeId}{z:Value}(hz:zeroOf P t=some z)(h:mk (cU z) (λr=>K (wI r)) w):SV P (Instr.alloc t true (.tuple #[])) w K:=by
 refine⟨_,_,?_,h t⟩;have:z.cells=⟨cU z⟩:=by rw[<-gV]
 simp[Instr.alloc,sB hz,newVar,newRow,this,wI]
def L8{t:TypeId}{z:Value}(hz:zeroOf P t=some z)(h:Xm t (cU z) (λr=>K (wI r)) w):SV P (Instr.alloc t true (.tuple #[])) w K:=by
 refine⟨_,_,?_,h⟩;have:z.cells=⟨cU z⟩:=by rw[<-gV]
 simp[Instr.alloc,sB hz,newVar,newRow,this,wI]
def qq{n size len cap:Nat}{b:OA}{cs:LV}(h:Src w n size b cs)(hb:b=none->n=0):
 (Builtin.firstCells size n (.slice b len cap)).run P w=.ok ⟨cs⟩ w:=by
 cases b with
 |none=>
  have h0:=hb rfl;subst h0;have hl:=h.1;simp at hl;subst hl;exact run_firstCells_none (P:=P) w size 0 len cap
 |some a=>exact run_firstCells_some (P:=P) w size n a len cap cs h.1 (h.2 a rfl)
def vD{s:BA}(size:Nat):(Builtin.firstCells size s.size (.string s)).run P w=.ok ⟨strCells s⟩ w:=by
 have e:s.extract 0 s.size=s:=by simp
 simp only[Builtin.firstCells,e,Sem.run_pure,strCells]
 congr 1
 apply afz;simp
def ES{Xg old:Nat}{el:TypeId}(t:Nat):Xg<=(Question.appendCap Xg old el).cut t:=by
 simp only[Question.cut];omega
def Hf{size bytes:Nat}{z:Value}{b:OA}{len cap n:Nat}{new:LV}{K:OA->Nat->Nat->WK}{t u ty e:TypeId}{i:TypeInfo}{du:TypeDesc}{x:Value}
 (h:RY size bytes (cU z) b len cap n new K w)(ht:P.underlying t=some (.slice e))(hu:P.underlying u=some du)(hdu:∀k,du≠.int k)(hi:P.info? e=some i)(hs:i.size=size)(J8:i.bytes=bytes)(hz:i.zero=some z)
 (hlen:(Builtin.lenOf x).run P w=.ok n w)(uh:∀w',(∀a,w'.cell? a=w.cell? a)->(Builtin.firstCells size n x).run P w'=.ok ⟨new⟩ w'):
 ∃b' n' c' w',(Builtin.append_ #[t,u] ty #[.slice b len cap,x]).run P w=.ok (.slice b' n' c') w'/\K b' n' c' w':=by
 subst hs J8;have hz':z.cells=⟨cU z⟩:=by rw[<-gV]
 have hnz:(match du with| .int _=>true|_=>false)=false:=by cases du<;>first|rfl|exact absurd rfl (hdu _)
 by_cases hle:len+n<=cap
 ·obtain⟨h1,h2⟩:=h.1 hle;cases b with
  |none=>
   refine⟨_,_,_,_,?_,h2 rfl⟩;simp only[Builtin.append_,List.getElem?_toArray,List.getElem?_cons_zero,aed,Sem.run_bind,dF ht,dF hu,run_sizeOf hi,Result.andThen_ok,Sem.run_pure,aeo,if_false,hlen,Bool.not_false,if_true,hle,uh w (λ_=>rfl)]
  |some a=>
   obtain⟨hc,hk⟩:=h1 a rfl;refine⟨_,_,_,_,?_,hk⟩;simp only[Builtin.append_,List.getElem?_toArray,List.getElem?_cons_zero,aed,Sem.run_bind,dF ht,dF hu,run_sizeOf hi,Result.andThen_ok,Sem.run_pure,aeo,if_false,hlen,Bool.not_false,if_true,hle,uh w (λ_=>rfl),rM _ _ _ _ hc]
 ·have aZ:cap<len+n:=by omega
  obtain⟨PN,ui,old,vK,hn,hk⟩:=h.2 aZ;have GG:=growslice_fits (old:=cap) (bytes:=i.bytes) aZ PN;have hm: ¬(((len+n:Nat):Int)>adU.max/\(False\/i.bytes=0)):=by
   have e:adU.max=9223372036854775807:=by decide
   rw[e];omega
  refine⟨_,_,_,_,?_,hk _ e (ES (old:=cap) (el:=e) (w.tape w.drawn (.appendCap (len+n) cap e)))⟩;have Rd:∀(l c:Nat),(Builtin.firstCells i.size len (.slice b l c)).run P w.drew=.ok ⟨old⟩ w.drew:=λl c=>
   qq (w:=w.drew) ⟨vK.1,λa ha=>vK.2 a ha⟩ hn
  have Aa:=uh w.drew (λ_=>rfl);have U8: ¬(Builtin.nextslicecap (len+n) cap* i.bytes>2^48):=by omega
  simp only[Builtin.append_,List.getElem?_toArray,List.getElem?_cons_zero,aed,Sem.run_bind,dF ht,dF hu,run_sizeOf hi,Result.andThen_ok,Sem.run_pure,aeo,if_false,hlen,Bool.not_false,if_true,hle,
   typeInfo,run_program,hi,U8,hm,zeroValue,hz,run_choose,Question.forced,run_askRoom,World.drew_eq,Rd,Aa,newRow,run_newObj,World.alloc_eq,hz',Sem.run_ite,run_mark]
  have e2:(⟨old⟩++⟨new⟩:Array Value)=(old++new).toArray:=by simp
  rw[e2];rfl
def L6{t u ty:TypeId}{s x:Value}(hh:IZ P t u s x K w):SV P (Builtin.append_ #[t,u] ty #[s,x]) w K:=by
 unfold IZ at hh;generalize ht:P.underlying t=dt at hh;split at hh
 case h_2=>exact hh.elim
 rename_i e b n c;cases hi:P.info? e with
 |none=>simp only[hi,no] at hh
 |some i=>
  simp only[hi] at hh;cases hz:i.zero with
  |none=>simp only[hz,no] at hh
  |some z=>
   simp only[hz] at hh;generalize hu:P.underlying u=du at hh;split at hh
   ·rename_i e' b' m c';obtain⟨new,vK,hn,aa5⟩:=hh;obtain⟨b1,n1,c1,w1,hr,hk⟩:=Hf (P:=P) (ty:=ty) (x:=.slice b' m c') aa5 ht hu (λk=>by simp) hi rfl rfl hz rfl (λw' Mn=>qq (w:=w') ⟨vK.1,λa ha j v hj=>by rw[Mn];exact vK.2 a ha j v hj⟩ hn);exact⟨_,_,hr,hk⟩
   ·rename_i y;cases hs:(afi i.size 1&&afi i.bytes 1) with
    |false=>simp only[hs,cond_false,no] at hh
    |true=>
     simp only[hs,cond_true] at hh;simp only[aeR] at hs;have h1:=aex hs.1;have h2:=aex hs.2;split at hh
     ·obtain⟨b1,n1,c1,w1,hr,hk⟩:=Hf (P:=P) (ty:=ty) (x:=.string y) (z:=.int .u8 0) hh ht hu (λk=>by simp) hi h1 h2 hz rfl (λw' _=>vD (w:=w') i.size);exact⟨_,_,hr,hk⟩
     ·exact hh.elim
   ·exact hh.elim
def VF{p:OA}{n c:Nat}{K:BA->WK}(h:RV p n K w):∃s,(Conv.bytesToString (.slice p n c)).run P w=.ok (.string s) w/\K s w:=by
 cases p with
 |none=>exact⟨_,rfl,h.1 rfl⟩
 |some a=>
  obtain⟨cs,hl,hH,hb,hk⟩:=h.2 a rfl;refine⟨_,?_,hk⟩;subst hl;have key:∀(l:LV),(∀v∈l,∃m,v=.int .u8 m)->∃ns:List Int,l=ns.map (.int .u8)/\bytesOf l=ns.map λn=>UInt8.ofNat n.toNat:=by
   intro l
   induction l with
   |nil=>intro _;exact⟨[],rfl,rfl⟩
   |cons v l ih=>
    intro hv;obtain⟨m,rfl⟩:=hv v (by simp);obtain⟨ns,h1,h2⟩:=ih λv yV=>hv v (by simp[yV]);exact⟨m::ns,by rw[h1];rfl,by simp only[aez,<-h2];rfl⟩
  have fold:∀(ns:List Int)(s:BA),ns.foldl (λr n=>r.push (UInt8.ofNat n.toNat)) s=⟨s.data++(ns.map λn=>UInt8.ofNat n.toNat).toArray⟩:=by
   intro ns
   induction ns with
   |nil=>intro s;simp
   |cons n ns ih=>
    intro s;rw[List.foldl_cons,ih]
    congr 1
    apply afz;simp[ByteArray.push]
  obtain⟨ns,h1,h2⟩:=key cs hb;have lH:=run_loadCells_list (P:=P) w a cs hH;have:=run_bytesToString (P:=P) w a cs.length c ns (by rw[lH,h1]);rw[this,fold,h2];simp[ByteArray.empty,ByteArray.emptyWithCapacity]
  rfl
def TZ{e:TypeId}{s:BA}{K:Nat->Nat->WK}(h:ZJ s K w):∃r c w',(Conv.stringToBytes e s).run P w=.ok (.slice (some ⟨r,0,none⟩) s.size c) w'/\K r c w':=by
 refine⟨_,_,_,?_,h _ e (ES (old:=0) (el:=e) (w.tape w.drawn (.appendCap s.size 0 e)))⟩;have EF:(choose (.appendCap s.size 0 e)).run P w=.ok ((Question.appendCap s.size 0 e).cut (w.tape w.drawn (.appendCap s.size 0 e))) w.drew:=rfl;simp only[Conv.stringToBytes,Sem.run_bind,EF,Result.andThen_ok,newRow,run_newObj,World.alloc_eq,Sem.run_pure,markStringish,run_shape];have e1:(s.data.map λb=>Value.int .u8 b.toNat)=(strCells s).toArray:=by
  apply afz;simp[strCells]
 rw[e1];generalize hc:(Question.appendCap s.size 0 e).cut (w.tape w.drawn (Question.appendCap s.size 0 e))=c;have hle:s.size<=c:=by rw[<-hc];exact ES (old:=0) (el:=e) _
 have ou:((strCells s).toArray++ae7 (c-s.size) (Value.int .u8 0)).size=c:=by
  have:s.data.size=s.size:=rfl;simp[strCells];omega
 have hsh:(w.drew.alloc (.cells ((strCells s).toArray++ae7 (c-s.size) (.int .u8 0)) e)).shape? w.drew.heap.size=some (e,c):=by
  simp only[World.shape?,World.alloc,Array.getElem?_push_size,ou]
 rw[hsh]
 rfl
def Ao(z:Array Value)(n:Nat):madeCells z (n* z.size)=Builtin.zeroCells z n:=rfl
def QP{t e:TypeId}{i:TypeInfo}{z:Value}{kl kc:IntKind}{l c:Int}(ht:P.underlying t=some (.slice e))(hi:P.info? e=some i)(hz:i.zero=some z)(hs:(cU z).length=i.size)
 (h:Gh i.bytes (cU z) l c (λb n c=>K (.slice b n c)) w):SV P (Instr.makeSlice t (.int kl l) (.int kc c)) w K:=by
 obtain⟨⟨h0,h1,h2,h3⟩,hk⟩:=h;refine⟨_,_,?_,hk e⟩;rw[run_make w t e i z ht hi hz kl kc l c h0 h1 (by rw[Int.mul_comm];exact h3) h2];have ou:z.cells.size=i.size:=by rw[<-hs,<-gV];simp
 rw[<-ou,Ao];have:z.cells=⟨cU z⟩:=by rw[<-gV]
 rw[this]
def RF{t ty e:TypeId}{i:TypeInfo}{vk:Array TypeId}{b b':OA}{n c m c':Nat}(h0:vk[0]?=some t)(ht:P.underlying t=some (.slice e))(hi:P.info? e=some i)
 (h:OF i.size b n b' m (λk=>K (.i k)) w):SV P (Builtin.copy_ vk ty #[.slice b n c,.slice b' m c']) w K:=by
 obtain⟨new,vK,hn,h1,h2⟩:=h;have hf:=qq (P:=P) (len:=m) (cap:=c') vK hn;cases b with
 |none=>
  refine⟨_,w,?_,h1 rfl⟩;simp only[Builtin.copy_,h0,List.getElem?_toArray,List.getElem?_cons_zero,aed,Sem.run_bind,dF ht,run_sizeOf hi,Result.andThen_ok,Sem.run_pure,Builtin.lenOf];rw[show Nat.min m n=min m n from rfl,hf]
  rfl
 |some a=>
  obtain⟨hc,hk⟩:=h2 a rfl;refine⟨_,_,?_,hk⟩;simp only[Builtin.copy_,h0,List.getElem?_toArray,List.getElem?_cons_zero,aed,Sem.run_bind,dF ht,run_sizeOf hi,Result.andThen_ok,Sem.run_pure,Builtin.lenOf];rw[show Nat.min m n=min m n from rfl,hf];simp only[Result.andThen_ok,rM _ _ _ _ hc,Sem.run_pure]
  rfl
def RG{t ty e:TypeId}{i:TypeInfo}{z:Value}{vk:Array TypeId}{b:OA}{n c:Nat}(h0:vk[0]?=some t)(ht:P.underlying t=some (.slice e))(hi:P.info? e=some i)(hz:i.zero=some z)
 (h:RH (Builtin.zeroCells ⟨cU z⟩ n).toList b n (K (.tuple ⟨[]⟩)) w):SV P (Builtin.clear_ vk ty #[.slice b n c]) w K:=by
 obtain⟨h1,h2⟩:=h;have hz':z.cells=⟨cU z⟩:=by rw[<-gV]
 cases b with
 |none=>
  refine⟨_,w,?_,h1 (.inl rfl)⟩;simp[Builtin.clear_,h0,dF ht]
 |some a=>
  cases n with
  |zero=>
   refine⟨_,w,?_,h1 (.inr rfl)⟩;simp[Builtin.clear_,h0,dF ht]
  |succ n=>
   obtain⟨hc,hk⟩:=h2 a rfl (by omega);refine⟨_,_,?_,hk⟩;simp only[Builtin.clear_,h0,List.getElem?_toArray,List.getElem?_cons_zero,Sem.run_bind,dF ht,Result.andThen_ok,zeroValue,typeInfo,run_program,hi,hz,Sem.run_pure,hz',rM _ _ _ _ hc]
end
section
variable {P:Program} {K:VK} {w:World} {T:B9} {n:Nat} {e:Env} {a:Act}
def Entry(P:Program)(g:Nat)(p:WP):Prop:=
 (∃fn,P.funcs[g]?=some fn/\(fn.name== "runtime.NumGoroutine")=false/\fn.body.isNone=false)/\
 ∀args K w,p args K w->Calls P g ⟨args⟩ w λe w'=>∃v,e=.returned v/\K v w'
def Sa(P:Program)(g:Nat)(p:WP):Prop:=∀args K w,p args K w->∃v w',(callFunc g ⟨args⟩).run P w=.ok (.value v) w'/\K v w'
def ko(P:Program):B9->Prop
 |[]=>True
 |(g,p)::r=>(Entry P g p\/Sa P g p)/\ko P r
def G7:∀{T:B9},ko P T->∀{g:Nat} {args:LV} {K:VK} {w:World},G8 T g args K w->
 ((∃fn,P.funcs[g]?=some fn/\(fn.name== "runtime.NumGoroutine")=false/\fn.body.isNone=false)/\Calls P g ⟨args⟩ w λe w'=>∃v,e=.returned v/\K v w')\/
 ∃v w',(callFunc g ⟨args⟩).run P w=.ok (.value v) w'/\K v w'
 |[],_,_,_,_,_,h=>h.elim
 |(f,p)::r,hT,g,args,K,w,h=>by
  simp only[G8] at h;cases hb:afi f g with
  |true=>
   have:=aex hb;subst this;simp only[hb,cond_true] at h;rcases hT.1 with he|he
   ·exact .inl ⟨he.1,he.2 _ _ _ h⟩
   ·exact .inr (he _ _ _ h)
  |false=>
   simp only[hb,cond_false] at h;exact G7 hT.2 h
def wC{g:Nat}{args:Array Value}{fn:Func}(h:P.funcs[g]?=some fn)(h1:(fn.name== "runtime.NumGoroutine")=false)(h2:fn.body.isNone=false)(w:World):
 (callFunc g args).run P w=.ok (.enter g args) w:=by
 simp only[callFunc,Sem.run_bind,run_program,Result.andThen_ok,h,h1,h2,aeo,if_false,Sem.run_pure]
def IP(hT:ko P T)(hs:Sub n e a){c:Call}{ty:TypeId}(h:xu P T e c ty K w):To P (do let d<-resolve a.eval c ty;invoke d.target d.args) w K:=by
 obtain⟨callee,args,vk⟩:=c;unfold xu at h;cases y6:LL e args.toList with
 |none=>simp only[y6,no] at h
 |some vs=>
  simp only[y6] at h;have GC:=hs.EL y6;cases callee with
  |invoke r m=>simp only[no] at h
  |value f=>
   cases hf:ev e f with
   |none=>simp only[hf,no] at h
   |some fv=>
    have hfe:=hs.eval hf;simp only[hf] at h;cases hz:zeroOf P ty with
    |none=>simp only[hz,no] at h
    |some z=>
     simp only[hz] at h;cases fv<;>first|exact False.elim h|skip
     rename_i fnv first cap
     cases fnv<;>first|exact False.elim h|skip
     rename_i g
     replace h:G8 T g (first.toList++vs++cap.toList) (xT z K) w:=h
     have Oe:(first++(⟨vs⟩:Array Value)++cap:Array Value)=⟨first.toList++vs++cap.toList⟩:=by
      apply afz;simp
     rcases G7 hT h with⟨⟨fn,h1,h2,h3⟩,hc⟩|⟨v,w',hr,hk⟩
     ·refine .inr (.inr ⟨g,⟨first.toList++vs++cap.toList⟩,w,?_,hc.mono λe w' ⟨v,he,hk⟩=>⟨v,he,MF hk⟩⟩);simp only[resolve,hfe,GC,Deferred.ofValue,invoke,Sem.run_bind,Sem.run_pure,Result.andThen_ok];rw[Oe,wC h1 h2 h3]
     ·refine .inl ⟨v,w',?_,MF hk⟩;simp only[resolve,hfe,GC,Deferred.ofValue,invoke,Sem.run_bind,Sem.run_pure,Result.andThen_ok];rw[Oe,hr]
  |builtin b=>
   simp only at h;have base:∀s:Sem Value,(∀cs,builtin b vk ty cs ⟨vs⟩=(do pure (.value (<-s))))->SV P s w K->To P (do let d<-resolve a.eval ⟨.builtin b,args,vk⟩ ty;invoke d.target d.args) w K:=by
    intro s hbs hsv;have:=SV.to hsv;have e1:(do let d<-resolve a.eval ⟨.builtin b,args,vk⟩ ty;invoke d.target d.args:Sem Next)=(do pure (.value (<-s))):=by
     rw[<-hbs (args.map λ| .const _=>true|_=>false)];simp only[resolve,GC,invoke]
     rfl
    rw[e1];exact this
   unfold vS at h;generalize Il:vk.toList=ts at h;split at h
   ·rename_i t r x;refine base (Builtin.len_ vk ty #[x]) (λcs=>rfl) (PV.sv (Di (t:=t) (.inr ⟨r,Il⟩) h))
   ·rename_i k x r;cases hm:mU x r with
    |none=>simp only[hm,no] at h
    |some m=>
     simp only[hm] at h;exact base (Builtin.min_ vk ty ⟨.int k x::r⟩) (λcs=>rfl) ⟨_,w,yb hm w,h⟩
   ·rename_i k x r;cases hm:Bf x r with
    |none=>simp only[hm,no] at h
    |some m=>
     simp only[hm] at h;exact base (Builtin.max_ vk ty ⟨.int k x::r⟩) (λcs=>rfl) ⟨_,w,Dg hm w,h⟩
   ·rename_i t u s x;have aa2:vk=#[t,u]:=by cases vk;simp only at Il;subst Il;rfl
    subst aa2;exact base (Builtin.append_ #[t,u] ty #[s,x]) (λcs=>rfl) (L6 h)
   ·rename_i t r b1 m1 c1 b2 m2 c2;have h0:vk[0]?=some t:=by cases vk;simp only at Il;subst Il;rfl
    generalize ht:P.underlying t=d at h;split at h
    ·rename_i el;cases hi:P.info? el with
     |none=>simp only[hi,no] at h
     |some i=>
      simp only[hi] at h;exact base (Builtin.copy_ vk ty #[.slice b1 m1 c1,.slice b2 m2 c2]) (λcs=>rfl) (RF h0 ht hi h)
    ·exact h.elim
   ·rename_i t r b1 m1 c1;have h0:vk[0]?=some t:=by cases vk;simp only at Il;subst Il;rfl
    generalize ht:P.underlying t=d at h;split at h
    ·rename_i el;cases hi:P.info? el with
     |none=>simp only[hi,no] at h
     |some i=>
      simp only[hi] at h;cases hz:i.zero with
      |none=>simp only[hz,no] at h
      |some z=>
       simp only[hz] at h;exact base (Builtin.clear_ vk ty #[.slice b1 m1 c1]) (λcs=>rfl) (RG h0 ht hi hz h)
    ·exact h.elim
   ·rename_i t r b1 m1 c1;have h0:vk[0]?=some t:=by cases vk;simp only at Il;subst Il;rfl
    generalize ht:P.underlying t=d at h;split at h
    ·exact base (Builtin.cap_ vk ty #[.slice b1 m1 c1]) (λcs=>rfl) ⟨_,w,by simp[Builtin.cap_,h0,dF ht,goInt],h⟩
    ·exact h.elim
   ·exact h.elim
def IK{s d:TypeId}{x:Value}(h:Af P s d x K w):SV P (convert s d x) w K:=by
 unfold Af at h;cases hs:P.underlying s with
 |none=>simp only[hs,no] at h
 |some sd=>
  simp only[hs] at h;generalize hd:P.underlying d=dd at h;split at h
  ·exact⟨_,_,run_convert_int hs hd _ _ w,h⟩
  ·exact⟨_,_,by cases sd<;>simp[convert,dF hs,dF hd],h⟩
  ·rename_i el b;generalize he:P.underlying el=ed at h;split at h
   ·obtain⟨r,c,w',hr,hk⟩:=TZ (P:=P) (e:=el) h;refine⟨_,w',?_,hk⟩;cases sd<;>simp[convert,dF hs,dF hd,dF he,hr]
   ·exact h.elim
  ·rename_i p m c;cases sd<;>simp only[no] at h
   rename_i el;generalize he:P.underlying el=ed at h;split at h
   ·obtain⟨r,hr,hk⟩:=VF (P:=P) (c:=c) h;refine⟨_,w,?_,hk⟩;simp[convert,dF hs,dF hd,dF he,hr]
   ·exact h.elim
  ·exact h.elim
def CB{t:TypeId}{m:Nat}{ps:List (Nat×Value)}(hh:vT P t m ps K w):SV P (Instr.buildSlice t m ⟨ps⟩) w K:=by
 unfold vT at hh;cases hu:P.underlying t with
 |none=>simp only[hu,no] at hh
 |some d=>
  cases d<;>simp only[hu,no] at hh
  rename_i el;cases hi:P.info? el with
  |none=>simp only[hi,no] at hh
  |some i=>
   simp only[hi] at hh;cases hz:i.zero with
   |none=>simp only[hz,no] at hh
   |some z=>
    simp only[hz] at hh;cases hb:(Nat.ble (m* i.size) 16777216&&Nat.blt 0 i.size&&afi (cU z).length i.size) with
    |false=>simp only[hb,cond_false,no] at hh
    |true=>
     simp only[hb,cond_true] at hh;simp only[aeR] at hb;obtain⟨⟨PN,ui⟩,U1⟩:=hb;have h1:m* i.size<=16777216:=ad3 PN;have h3:=aex U1;cases hc:qB (Builtin.zeroCells ⟨cU z⟩ m).toList ((aft m).map λj=>(j* i.size,i.size)) 0 0 (ps.map λp=>(p.1,cU p.2)) with
     |none=>simp only[hc,no] at hh
     |some y=>
      obtain⟨cs,p⟩:=y;simp only[hc] at hh;obtain⟨N3,hk⟩:=hh;have hf:=sm ((aft m).map λj=>(j* i.size,i.size)) (λj=>some (j* i.size,i.size)) (λj x hx=>by
       rw[aeJ] at hx
       cases hr:(aft m)[j]? with
       |none=>simp[hr] at hx
       |some q=>
        have:q=j:=by
         rw[afq] at hr
         ·exact(aeh.inj hr).symm
         ·have:=(adZ.1 hr).1;simpa using this
        subst this;simpa [hr] using hx) _ _ 0 0 [] ps cs p rfl rfl (ad6 _) hc N3
      simp only[aeA,ae5] at hf;have ou:z.cells=⟨cU z⟩:=by rw[<-gV]
      have hzz:(⟨cU z⟩:Array Value).size=i.size:=h3;have aax:((Array.range (m* i.size)).map λx=>(⟨cU z⟩:Array Value)[x%(⟨cU z⟩:Array Value).size]!)=Builtin.zeroCells ⟨cU z⟩ m:=by
       rw[<-hzz];rfl
      refine⟨_,_,?_,hk el⟩;simp only[Instr.buildSlice,Sem.run_bind,dF hu,Result.andThen_ok,run_sizeOf hi];have hn: ¬(m* i.size>2^24):=by omega
      simp only[hn,if_false];by_cases h0:m* i.size=0
      ·have hm:m=0:=by
        rcases Nat.mul_eq_zero.1 h0 with h|h
        ·exact h
        ·rw[h] at ui;simp at ui
       subst hm;have hzc:Builtin.zeroCells ⟨cU z⟩ 0=#[]:=by simp[Builtin.zeroCells]
       rw[hzc] at hf;have Uy:∀f:Nat->Value,(Array.range (0* i.size)).map f=#[]:=λf=>by rw[Nat.zero_mul];simp
       simp only[h0,if_true];simp only[Nat.zero_mul] at Uy;rw[show ∀z:Array Value,(⟨z.toList⟩:Array Value)=z from λz=>rfl] at hf;simp only[Sem.run_bind,Sem.run_pure,Result.andThen_ok,Uy];rw[hf]
       rfl
      ·simp only[h0,if_false,Sem.run_bind,zeroValue,typeInfo,run_program,hi,hz,Result.andThen_ok,Sem.run_pure,ou,aax];rw[show ∀z:Array Value,(⟨z.toList⟩:Array Value)=z from λz=>rfl] at hf;rw[hf]
       rfl
end
section
variable {P:Program} {K:VK} {w:World} {T:B9} {E:Po} {n:Nat} {e:Env} {a:Act}
def Pure.of_eq{s:Sem Next}(v:Value)(h:s=pure (.value v))(hk:K v w):Pure P s w K:=⟨v,λw'=>by rw[h];rfl,hk⟩
def EU(hs:Sub n e a){c:Call}{ty:TypeId}(hc:cls P (.call c)=0)(h:xu P T e c ty K w):Pure P (do let d<-resolve a.eval c ty;invoke d.target d.args) w K:=by
 obtain⟨callee,args,vk⟩:=c;unfold xu at h;cases y6:LL e args.toList with
 |none=>simp only[y6,no] at h
 |some vs=>
  simp only[y6] at h;have GC:=hs.EL y6;cases callee with
  |invoke r m=>simp only[no] at h
  |value f=>simp[cls] at hc
  |builtin b=>
   simp only at h;have base:∀s:Sem Value,(∀cs,builtin b vk ty cs ⟨vs⟩=(do pure (.value (<-s))))->PV P s w K->Pure P (do let d<-resolve a.eval ⟨.builtin b,args,vk⟩ ty;invoke d.target d.args) w K:=by
    intro s hbs hsv;have:=PV.pure hsv;have e1:(do let d<-resolve a.eval ⟨.builtin b,args,vk⟩ ty;invoke d.target d.args:Sem Next)=(do pure (.value (<-s))):=by
     rw[<-hbs (args.map λ| .const _=>true|_=>false)];simp only[resolve,GC,invoke]
     rfl
    rw[e1];exact this
   unfold vS at h;generalize Il:vk.toList=ts at h;split at h
   ·rename_i t r x;exact base (Builtin.len_ vk ty #[x]) (λcs=>rfl) (Di (t:=t) (.inr ⟨r,Il⟩) h)
   ·rename_i k x r;cases hm:mU x r with
    |none=>simp only[hm,no] at h
    |some m=>
     simp only[hm] at h;exact base (Builtin.min_ vk ty ⟨.int k x::r⟩) (λcs=>rfl) ⟨_,yb hm,h⟩
   ·rename_i k x r;cases hm:Bf x r with
    |none=>simp only[hm,no] at h
    |some m=>
     simp only[hm] at h;exact base (Builtin.max_ vk ty ⟨.int k x::r⟩) (λcs=>rfl) ⟨_,Dg hm,h⟩
   ·simp[cls] at hc
   ·simp[cls] at hc
   ·simp[cls] at hc
   ·simp[cls] at hc
   ·exact h.elim
def A8(hE:og P E)(hs:Sub n e a){o:Oper}(hc:cls P o.op=0)(h:tZ P T E e o.op o.type K w):Pure P (execOp a.eval o) w K:=by
 obtain⟨dst,op,ty,pos,after,guard⟩:=o;simp only at hc h;cases op<;>simp[cls] at hc<;>simp only[tZ] at h
 case move x=>
  cases hx:ev e x with
  |none=>simp only[hx,no] at h
  |some v=>simp only[hx] at h;exact .of_eq v (by simp only[execOp,hs.eval hx]) h
 case assign x=>
  cases hx:ev e x with
  |none=>simp only[hx,no] at h
  |some v=>simp only[hx] at h;exact .of_eq v (by simp only[execOp,hs.eval hx]) h
 case pick c x y=>
  cases hx:ev e c with
  |none=>simp only[hx,no] at h
  |some v=>
   cases v<;>simp only[hx,no] at h
   rename_i b;cases b with
   |true=>
    simp only[br] at h;cases hy:ev e x with
    |none=>simp only[hy,no] at h
    |some u=>simp only[hy] at h;exact .of_eq u (by simp only[execOp,hs.eval hx,hs.eval hy,asBool,pure_bind,if_true]) h
   |false=>
    simp only[br] at h;cases hy:ev e y with
    |none=>simp only[hy,no] at h
    |some u=>simp only[hy] at h;exact .of_eq u (by simp only[execOp,hs.eval hx,hs.eval hy,asBool,pure_bind,aeo,if_false]) h
 case nilCheck x=>
  cases hx:ev e x with
  |none=>simp only[hx,no] at h
  |some v=>
   simp only[hx] at h;unfold SG at h;split at h
   ·rename_i p;cases p with
    |none=>exact h.elim
    |some p=>simp only[nn] at h;exact .of_eq _ (by simp only[execOp,hs.eval hx]) h
   ·exact .of_eq _ (by simp only[execOp,hs.eval hx]) h
   ·exact h.elim
 case binOp op t x y u=>
  cases hx:ev e x with
  |none=>simp only[hx,no] at h
  |some v=>
   cases hy:ev e y with
   |none=>simp only[hx,hy,no] at h
   |some u=>
    simp only[hx,hy] at h;simp only[execOp,hs.eval hx,hs.eval hy];exact PV.pure (L5 hE h)
 case unOp op t x=>
  cases hx:ev e x with
  |none=>simp only[hx,no] at h
  |some v=>
   simp only[hx] at h;simp only[execOp,hs.eval hx];exact PV.pure (MR h)
 case makeFunc fn first cap=>
  cases hx:LL e first.toList with
  |none=>simp only[hx,no] at h
  |some f=>
   cases hy:LL e cap.toList with
   |none=>simp only[hx,hy,no] at h
   |some c=>
    simp only[hx,hy] at h;simp only[execOp,hs.EL hx,hs.EL hy];exact PV.pure ⟨_,λw'=>rfl,h⟩
 case slice t x lo hi mx=>
  cases mx with
  |some _=>simp only[no] at h
  |none=>
   simp only at h;cases hx:ev e x with
   |none=>simp only[hx,no] at h
   |some v=>
    cases hl:PR e lo with
    |none=>simp only[hx,hl,no] at h
    |some l=>
     cases hh:PR e hi with
     |none=>simp only[hx,hl,hh,no] at h
     |some u=>
      simp only[hx,hl,hh] at h;simp only[execOp,hs.eval hx];exact PV.pure (FM (hs.PR hl) (hs.PR hh) h)
 case fieldAddr t x f=>
  cases hx:ev e x with
  |none=>simp only[hx,no] at h
  |some v=>
   simp only[hx] at h;simp only[execOp,hs.eval hx];exact PV.pure (zB h)
 case field t x f=>
  cases hx:ev e x with
  |none=>simp only[hx,no] at h
  |some v=>
   simp only[hx] at h;simp only[execOp,hs.eval hx];exact PV.pure (GQ h)
 case indexAddr t x i=>
  cases hx:ev e x with
  |none=>simp only[hx,no] at h
  |some v=>
   cases hy:ev e i with
   |none=>simp only[hx,hy,no] at h
   |some j=>
    simp only[hx,hy] at h;simp only[execOp,hs.eval hx,hs.eval hy];exact PV.pure (zw h)
 case index t x i=>
  cases hx:ev e x with
  |none=>simp only[hx,no] at h
  |some v=>
   cases hy:ev e i with
   |none=>simp only[hx,hy,no] at h
   |some j=>
    simp only[hx,hy] at h;simp only[execOp,hs.eval hx,hs.eval hy];exact PV.pure (Gu h)
 case extract x i=>
  cases hx:ev e x with
  |none=>simp only[hx,no] at h
  |some v=>
   cases v<;>simp only[hx,no] at h
   rename_i vs;cases hv:vs[i]? with
   |none=>simp only[hv,no] at h
   |some u=>
    simp only[hv] at h;simp only[execOp,hs.eval hx];exact PV.pure ⟨u,λw'=>by simp[Instr.extract,hv],h⟩
 case build t ps=>
  cases hx:EM e ps.toList with
  |none=>simp only[hx,no] at h
  |some l=>
   simp only[hx] at h;have hm:(ps.map λ(i,x)=>(i,a.eval x))=⟨l⟩:=by
    have:=hs.IB hx;apply afz;rw[Array.toList_map];exact this
   simp only[execOp,hm];exact PV.pure (G' h)
 case convert s d x=>
  cases hx:ev e x with
  |none=>simp only[hx,no] at h
  |some v=>
   simp only[hx] at h;simp only[execOp,hs.eval hx];cases hd:P.underlying d with
   |none=>simp[hd] at hc
   |some dd=>
    cases dd<;>simp[hd] at hc
    unfold Af at h;cases PA:P.underlying s with
    |none=>simp only[PA,no] at h
    |some sd=>
     simp only[PA,hd] at h;cases v<;>simp only[no] at h
     exact PV.pure ⟨_,λw'=>run_convert_int PA hd _ _ w',h⟩
 case call c=>
  simp only[execOp];exact EU hs (by simp only[cls];exact hc) h
def A7(hE:og P E)(hT:ko P T)(hs:Sub n e a){o:Oper}(h:tZ P T E e o.op o.type K w):To P (execOp a.eval o) w K:=by
 by_cases hc:cls P o.op=0
 ·exact(A8 hE hs hc h).to
 obtain⟨dst,op,ty,pos,after,guard⟩:=o;simp only at hc h;cases op<;>simp[cls] at hc<;>simp only[tZ,no] at h
 case alloc t=>
  cases hz:zeroOf P t with
  |none=>simp only[hz,no] at h
  |some z=>
   simp only[hz] at h;cases hsf:CS P t with
   |true=>rw[hsf] at h;exact SV.to (L8 hz h)
   |false=>rw[hsf] at h;exact SV.to (OT hz h)
 case box t x=>
  cases hx:ev e x with
  |none=>simp only[hx,no] at h
  |some v=>
   simp only[hx] at h;simp only[execOp,hs.eval hx];exact SV.to (Xl h v rfl)
 case buildSlice t m ps=>
  cases hx:EM e ps.toList with
  |none=>simp only[hx,no] at h
  |some l=>
   simp only[hx] at h;have hm:(ps.map λ(i,x)=>(i,a.eval x))=⟨l⟩:=by
    have:=hs.IB hx;apply afz;rw[Array.toList_map];exact this
   simp only[execOp,hm];exact SV.to (CB h)
 case load t x=>
  cases hx:ev e x with
  |none=>simp only[hx,no] at h
  |some v=>
   cases v<;>simp only[hx,no] at h
   rename_i p;cases p with
   |none=>exact h.elim
   |some p=>
    simp only at h;simp only[execOp,hs.eval hx];obtain⟨v,cs,hH,hr,hk⟩:=sL h;exact SV.to ⟨v,w,by simp[Instr.loadAt,Instr.sureAddr,hr w hH],hk⟩
 case store t x y=>
  cases hx:ev e x with
  |none=>simp only[hx,no] at h
  |some v=>
   cases hy:ev e y with
   |none=>cases v<;>simp only[hx,hy,no] at h
   |some u=>
    cases v<;>simp only[hx,hy,no] at h
    rename_i p;cases p with
    |none=>exact h.elim
    |some p=>
     simp only at h;simp only[execOp,hs.eval hx,hs.eval hy];obtain⟨w',hr,hk⟩:=Ce h;exact .inr (.inl ⟨w',by simp[Instr.storeAt,Instr.sureAddr,hr],hk⟩)
 case convert s d x=>
  cases hx:ev e x with
  |none=>simp only[hx,no] at h
  |some v=>
   simp only[hx] at h;simp only[execOp,hs.eval hx];exact SV.to (IK h)
 case makeSlice t m c=>
  cases hu:P.underlying t with
  |none=>simp only[hu,no] at h
  |some d=>
   cases hx:ev e m with
   |none=>cases d<;>simp only[hu,hx,no] at h
   |some mv=>
    cases hy:ev e c with
    |none=>cases d<;>simp only[hu,hx,hy,no] at h
    |some cv=>
     cases d<;>simp only[hu,hx,hy,no] at h
     cases mv<;>(try simp only[no] at h)
     cases cv<;>simp only[no] at h
     rename_i el k1 mi k2 ci;cases hi:P.info? el with
     |none=>simp only[hi,no] at h
     |some i=>
      simp only[hi] at h;cases hz:i.zero with
      |none=>simp only[hz,no] at h
      |some z=>
       simp only[hz] at h;cases hb:(Nat.blt 0 i.size&&afi (cU z).length i.size) with
       |false=>simp only[hb,cond_false,no] at h
       |true=>
        simp only[hb,cond_true] at h;simp only[aeR] at hb;simp only[execOp,hs.eval hx,hs.eval hy];exact SV.to (QP hu hi hz (aex hb.2) h)
 case call c=>
  simp only[execOp];exact IP hT hs h
end
def S2(F:Fn)(e:Env)(a:Act):Prop:=Sub F.n e a/\Sub F.n F.C a
def QS(F:Fn)(Q:Exit->Env->WK):Exit->Act->World->Prop:=λex a w=>(∃e,S2 F e a/\Q ex e w)/\∀c,ex≠.panic c
structure Ok(F:Fn):Prop where
 CN:ko F.P F.T
 eqs:og F.P F.E
 mixed:F.P.follows .mixedOrders=true
section
variable {F:Fn} {P:Program} {w:World} {e:Env} {a:Act} {ops:Array Oper}
def Pd{Q:Exit->Env->WK}{c:List PanicEntry}{a:Act}{w:World}: ¬QS F Q (.panic c) a w:=λh=>h.2 c rfl
def qu{d:Option Tmp}{v:Value}{K:Env->WK}(hs:S2 F e a)(h:pt F.n F.C e d v K w):∃e',S2 F e' (a.put d v)/\K e' w:=by
 cases d with
 |none=>exact⟨e,hs,h⟩
 |some d=>
  simp only[pt] at h;cases hb:(Nat.blt d F.n&&cover F.C d) with
  |false=>simp only[hb,cond_false,no] at h
  |true=>
   simp only[hb,cond_true] at h;simp only[aeR] at hb;have Lm:=hs.1.put (by have:=hb.1;rwa[Nat.blt_eq] at this) v;refine⟨_,⟨Lm,Lm.size,Lm.defers,λt u ht=>?_⟩,h⟩;have gU:d≠t:=λhd=>by
    subst hd;have:=hb.2;simp only[cover,ht,aeo] at this
   simp only[Act.put];rw[Array.getElem?_setIfInBounds_ne gU];exact hs.2.get t u ht
def Fm{o:Oper}{K:VK}{next:Act->World->Prop}{Q:Exit->Act->World->Prop}(h:To P (execOp a.eval o) w K)(hk:∀v w',K v w'->next (a.put o.dst v) w'):o.wp P a w next Q:=by
 unfold Oper.wp;rcases h with⟨v,w',hr,h⟩|⟨w',hr,h⟩|⟨g,args,w',hr,h⟩
 ·rw[hr];exact hk _ _ h
 ·rw[hr];exact hk _ _ h
 ·rw[hr];refine Calls.mono h λe WJ ⟨v,he,hv⟩=>?_;subst he;exact hk _ _ hv
def Oh{j:Nat}{d:Tmp}{b:Bool}(hd:LG ops j=some d)(h:lk e d=some (.bool b)){n:Nat}(hs:Sub n e a):yielded ops a.tmps j=some b:=by
 unfold LG at hd;unfold yielded;cases ho:ops[j]? with
 |none=>simp[ho] at hd
 |some o=>
  simp only[ho] at hd;simp only[Option.bind_some,hd,hs.get _ _ h]
def DR(a b:Bool):IX a b=(a==b):=by cases a<;>cases b<;>rfl
def oZ{o:Oper}{run skip:Env->WK}{X:Prop}(hs:S2 F e a)(h:guarded ops o e run skip w)
 (hr:∀e',S2 F e' a->Region.wanted o (yielded ops a.tmps)=true->run e' w->X)
 (hk:∀e',S2 F e' a->Region.wanted o (yielded ops a.tmps)=false->skip e' w->X):X:=by
 unfold guarded at h;cases hg:o.guard with
 |none=>
  simp only[hg] at h;exact hr e hs (by simp[Region.wanted,hg]) h
 |some jw=>
  obtain⟨j,want⟩:=jw;simp only[hg] at h;cases hd:LG ops j with
  |none=>simp only[hd,no] at h
  |some d=>
   simp only[hd] at h;cases hl:lk e d with
   |none=>simp only[hl,no] at h
   |some v=>
    cases v<;>simp only[hl,no] at h
    case tuple vs=>
     refine hk e hs ?_ h;have:yielded ops a.tmps j=none:=by
      unfold LG at hd;unfold yielded;cases ho:ops[j]? with
      |none=>simp[ho] at hd
      |some o=>
       simp only[ho] at hd;simp only[Option.bind_some,hd,hs.1.get _ _ hl]
     simp only[Region.wanted,hg,this]
     rfl
    rename_i b;have hy:=Oh hd hl hs.1;have Ac:S2 F _ a:=⟨hs.1.again hl,hs.2⟩;have hw:Region.wanted o (yielded ops a.tmps)=(b==want):=by
     simp only[Region.wanted,hg,hy];cases b<;>cases want<;>rfl
    cases b with
    |true=>
     simp only[br,DR] at h;cases hb:(true==want) with
     |true=>simp only[hb,cond_true] at h;exact hr _ Ac (by rw[hw,hb]) h
     |false=>simp only[hb,cond_false] at h;exact hk _ Ac (by rw[hw,hb]) h
    |false=>
     simp only[br,DR] at h;cases hb:(false==want) with
     |true=>simp only[hb,cond_true] at h;exact hr _ Ac (by rw[hw,hb]) h
     |false=>simp only[hb,cond_false] at h;exact hk _ Ac (by rw[hw,hb]) h
def va{o:Oper}{K:Env->WK}(h:SF F ops o K e w):
 guarded ops o e (λe=>tZ F.P F.T F.E e o.op o.type λv=>pt F.n F.C e o.dst v K) (λe=>pt F.n F.C e o.dst undef K) w:=h
def wy(hF:Ok F){Q:Exit->Act->World->Prop}{K:Env->WK}(hK:∀e a w,S2 F e a->K e w->Q .normal a w):
 ∀(l:List Nat)(os:List Oper)(e:Env)(a:Act)(w:World),l.length=os.length->(∀k i:Nat,l[k]?=some i->ops[i]?=os[k]?)->S2 F e a->tT F ops os K e w->wpOps F.P ops Q l a w
 |[],[],e,a,w,_,_,hs,h=>hK e a w hs h
 |[],_::_,_,_,_,hl,_,_,_=>by simp at hl
 |_::_,[],_,_,_,hl,_,_,_=>by simp at hl
 |i::l,o::os,e,a,w,hl,hi,hs,h=>by
  have hio:ops[i]?=some o:=hi 0 i rfl;have rest:=λe a w=>wy hF hK l os e a w (by simpa using hl) (λ(k j:Nat)(hk:l[k]?=some j)=>hi (k+1) j (by simpa using hk));rw[wpOps_cons];unfold wpOp;simp only[hio];refine oZ (F:=F) hs (va h) (λe' cV hw hr=>?_) (λe' cV hw hr=>?_)
  ·rw[if_pos hw];refine .inl (Fm (A7 hF.eqs hF.CN cV.1 hr) λv w' hv=>?_);obtain⟨Ox,tE,hk⟩:=qu cV hv;exact rest _ _ _ tE hk
  ·rw[if_neg (by rw[hw];exact aeq)];obtain⟨Ox,tE,hk⟩:=qu cV hr;exact rest _ _ _ tE hk
abbrev SL:=List (Nat×(World->Prop))
def tp(o:Oper)(S:SL):SL:=S.filter λp=> !waits o p.1
def wpAnyS(P:Program)(ops:Array Oper)(Q:Exit->Act->World->Prop):Nat->SL->Array Bool->Act->World->Prop
 |0,_,listed,a,w=>Region.ready .any ops listed=[]/\Q .normal a w
 |fuel+1,S,listed,a,w=>
  (Region.ready .any ops listed=[]->Q .normal a w)/\
  ∀i∈Region.ready .any ops listed,∀o,ops[i]?=some o->wpOp P ops Q i (λa' w'=>(∀p∈tp o S,p.2 w')/\wpAnyS P ops Q fuel (tp o S) (listed.setIfInBounds i true) a' w') a w
def Aq{Q:Exit->Act->World->Prop}:∀(fuel:Nat)(S:SL)(listed:Array Bool)(a:Act)(w:World),wpAnyS P ops Q fuel S listed a w->wpAny P .any ops Q fuel listed a w
 |0,_,_,_,_,h=>h
 |fuel+1,S,listed,a,w,h=>⟨h.1,λi hi=>by
                          obtain⟨_,o,ho,_⟩:=mem_ready.1 hi
                          exact wpOp_mono (λa' w' h'=>Aq fuel _ _ a' w' h'.2) (h.2 i hi o ho)⟩
def o9{Q:Exit->Act->World->Prop}:∀(fuel:Nat)(S S':SL)(listed:Array Bool)(a:Act)(w:World),(∀p∈S',p∈S\/∀w,p.2 w)->wpAnyS P ops Q fuel S listed a w->wpAnyS P ops Q fuel S' listed a w
 |0,_,_,_,_,_,_,h=>h
 |fuel+1,S,S',listed,a,w,Us,h=>⟨h.1,λi hi o ho=>by
                                have hs:∀p∈tp o S',p∈tp o S\/∀w,p.2 w:=λp hp=>by
                                 simp only[tp,List.mem_filter] at hp⊢
                                 exact(Us _ hp.1).imp (λh=>⟨h,hp.2⟩) id
                                exact wpOp_mono (λa' w' h'=>⟨λp hp=>(hs p hp).elim (h'.1 p) (λh=>h w'),o9 fuel _ _ _ a' w' hs h'.2⟩) (h.2 i hi o ho)⟩
def wpAnyS_first{Q:Exit->Act->World->Prop}{i:Nat}{oi:Oper}{v:Value}{Y:World->Prop}(hi:ops[i]?=some oi)(yg:∀(j:Nat)(o:Oper) cs b,ops[j]?=some o->o.op≠.select cs b)
 (hQ:∀c a w,Q (.panic c) (a.put oi.dst v) w->Q (.panic c) a w):
 ∀(fuel:Nat)(S:SL)(listed:Array Bool)(a:Act)(w:World),
  (∀j oj,ops[j]?=some oj->j≠i->listed.getD j true=false->(∀e∈oj.after,Region.binds .any e=true->e.on≠i)->oi.apart ops oj=true)->
  i∈Region.ready .any ops listed->YieldsIf P ops Y oi v a->Y w->(∀p∈S,p.2 w)->
  wpAnyS P ops Q fuel ((i,Y)::S) (listed.setIfInBounds i true) (a.put oi.dst v) w->wpAnyS P ops Q (fuel+1) S listed a w:=by
 intro fuel
 induction fuel with
 |zero=>
  intro S listed a w _ hr hy hY hS H;refine⟨λh=>(by rw[h] at hr;cases hr),λj hj o ho=>?_⟩;by_cases GF:j=i
  ·subst GF;rw[hi] at ho;cases ho
   exact hy.wpOp hi hY ⟨λp hp=>hS p (List.mem_filter.1 hp).1,H⟩
  ·have:=ready_mono hj GF;rw[H.1] at this;cases this
 |succ fuel ih=>
  intro S listed a w Dw hr hy hY hS H;refine⟨λh=>(by rw[h] at hr;cases hr),λj hj o ho=>?_⟩;by_cases GF:j=i
  ·subst GF;rw[hi] at ho;cases ho
   refine hy.wpOp hi hY ⟨λp hp=>hS p (List.mem_filter.1 hp).1,?_⟩;exact o9 _ _ _ _ _ _ (λp hp=>.inl (ae1 _ (List.mem_filter.1 hp).1)) H
  ·have h1:=H.2 j (ready_mono hj GF) o ho;obtain⟨X0,oj,hoj,fJ⟩:=mem_ready.1 hj;rw[ho] at hoj;cases hoj
   have ZR:=(mem_ready.1 hr).1;have XN:∀e∈o.after,Region.binds .any e=true->e.on≠i:=λe he hb heq=>by
    have h1:=fJ e he hb;have h0:=ZR;rw[heq] at h1;rcases Nat.lt_or_ge i listed.size with h'|h'
    ·simp[h'] at h0 h1;rw[h0] at h1;cases h1
    ·simp[Array.getElem?_eq_none h'] at h1
   have hnw:waits o i=false:=by
    cases hw:waits o i with
    |false=>rfl
    |true=>
     simp only[waits,Array.any_eq_true'] at hw;obtain⟨e,he,hb⟩:=hw;simp only[aeR] at hb;exact absurd (aex hb.2) (XN e he hb.1)
   have Yb:tp o ((i,Y)::S)=(i,Y)::tp o S:=by simp[tp,hnw]
   rw[Yb] at h1;have h2:=wpOp_putIf ho (Dw j o ho GF X0 XN) (λcs b=>yg i oi cs b hi) (λcs b=>yg j o cs b ho) hQ hy h1;have US:∀k ok,ops[k]?=some ok->k≠i->(listed.setIfInBounds j true).getD k true=false->
      (∀e∈ok.after,Region.binds .any e=true->e.on≠i)->oi.apart ops ok=true:=λk ok hk J5 ZR EA=>by
    refine Dw k ok hk J5 ?_ EA;by_cases hjk:j=k
    ·subst hjk;exact X0
    ·rw[getD_set_ne true hjk] at ZR;exact ZR
   refine wpOp_mono (λa' w' h3=>?_) h2;have hY':Y w':=h3.2.1 (i,Y) (by simp);have Z8:∀p∈tp o S,p.2 w':=λp hp=>h3.2.1 p (by simp[hp]);refine⟨Z8,ih (tp o S) (listed.setIfInBounds j true) a' w' US (ready_mono hr (Ne.symm GF)) h3.1 hY' Z8 ?_⟩;rw[Array.setIfInBounds_comm _ _ GF];exact h3.2.2
def YS(S:zD):SL:=S.map λp=>(p.1,λw=>tB w p.2.1 p.2.2)
def O4(o:Oper)(S:zD):YS (stays o S)=tp o (YS S):=by
 induction S with
 |nil=>rfl
 |cons p S ih=>
  simp only[YS,stays,tp,aez,List.filter_cons] at ih⊢;cases waits o p.1<;>simp[ih]
def Gr:∀{S:zD} {K:WK} {w:World},jA S K w->(∀p∈YS S,p.2 w)/\K w
 |[],_,_,h=>⟨by simp[YS],h⟩
 |(i,b,cs)::S,K,w,h=>by
  obtain⟨h1,h2⟩:=h;obtain⟨h3,h4⟩:=Gr h2;refine⟨λp hp=>?_,h4⟩;simp only[YS,aez,afe] at hp;rcases hp with rfl|hp
  ·exact h1
  ·exact h3 p hp
def Hi:∀{l:List Nat} {f:Nat->WK} {w:World},VM l f w->∀i∈l,f i w
 |[],_,_,_,i,hi=>by simp at hi
 |[j],f,w,h,i,hi=>by simp at hi;subst hi;exact h
 |j::k::r,f,w,h,i,hi=>by
  rcases afe.1 hi with rfl|hi
  ·exact h.1
  ·exact Hi (l:=k::r) h.2 i hi
def Nw(hE:og F.P F.E)(hs:Sub F.n e a){i:Nat}{o:Oper}{S:zD}{K:zD->VK}(hq:Nat.blt (cls F.P o.op) 2=true)(h:Qz F e i o S K w)(hS:∀p∈YS S,p.2 w):
 ∃v Y S',(∀w',Y w'->(execOp a.eval o).run F.P w'=.ok (.value v) w')/\Y w/\K S' v w/\(∀p∈YS S',p.2 w)/\(∀p∈(i,Y)::YS S,p∈YS S'\/∀w,p.2 w):=by
 rw[Nat.blt_eq] at hq;by_cases hc:cls F.P o.op=0
 ·have:tZ F.P F.T F.E e o.op o.type (K S) w:=by
   unfold Qz at h;generalize UE:o.op=op at h;split at h
   ·rw[UE] at hc;simp[cls] at hc
   ·exact h
  obtain⟨v,hr,hk⟩:=A8 hE hs hc this;exact⟨v,λ_=>True,S,λw' _=>hr w',trivial,hk,hS,λp hp=>by
   rcases afe.1 hp with rfl|hp
   ·exact .inr λ_=>trivial
   ·exact .inl hp⟩
 ·have h1:cls F.P o.op=1:=by omega
  obtain⟨dst,op,ty,pos,after,guard⟩:=o;simp only at h1;have:∃t x,op=.load t x:=by
   cases op<;>simp only[cls] at h1<;>first
    |exact⟨_,_,rfl⟩
    |(exfalso;omega)
    |(exfalso;revert h1;split<;>omega)
    |(exfalso;revert h1;split<;>(try split)<;>omega)
  obtain⟨t,x,rfl⟩:=this;simp only[Qz] at h;cases hx:ev e x with
  |none=>simp only[hx,no] at h
  |some v=>
   cases v<;>simp only[hx,no] at h
   rename_i p;cases p with
   |none=>exact h.elim
   |some p=>
    simp only at h;obtain⟨v,cs,hH,hr,hk⟩:=sL h;refine⟨v,λw'=>tB w' p cs,(i,p,cs)::S,λw' Mn=>?_,hH,hk,λq hq=>?_,λq hq=>.inl (by simpa [YS] using hq)⟩
    ·simp only[execOp,hs.eval hx];simp[Instr.loadAt,Instr.sureAddr,hr w' Mn]
    ·simp only[YS,aez,afe] at hq;rcases hq with rfl|hq
     ·exact hH
     ·exact hS q hq
def mY(hF:Ok F)(yg:Region.noSelect ops=true){Q:Exit->Act->World->Prop}(hQ:∀c a w,¬Q (.panic c) a w){K:Env->WK}(hK:∀e a w,S2 F e a->K e w->Q .normal a w):
 ∀(f:Nat)(listed:Array Bool)(S:zD)(e:Env)(a:Act)(w:World),S2 F e a->(∀p∈YS S,p.2 w)->q6 F ops K f listed S e w->wpAnyS F.P ops Q f (YS S) listed a w
 |0,listed,S,e,a,w,hs,hS,h=>by
  simp only[q6] at h;cases hr:Region.ready .any ops listed with
  |nil=>simp only[hr] at h;exact⟨hr,hK e a w hs h⟩
  |cons r rs=>simp only[hr,no] at h
 |f+1,listed,S,e,a,w,hs,hS,h=>by
  simp only[q6] at h;cases hr:Region.ready .any ops listed with
  |nil=>
   simp only[hr] at h;exact⟨λ_=>hK e a w hs h,λi hi=>by rw[hr] at hi;simp at hi⟩
  |cons r rs=>
   simp only[hr] at h;cases hf:(r::rs).find? (quietAt F.P ops) with
   |some i=>
    simp only[hf] at h;have mu:i∈Region.ready .any ops listed:=by rw[hr];exact aeW hf
    have N2:=List.find?_some hf;cases ho:ops[i]? with
    |none=>simp only[ho,no] at h
    |some o=>
     simp only[ho] at h;simp only[quietAt,ho] at N2;cases Dw:Region.free .any ops listed i with
     |false=>simp only[Dw,cond_false,no] at h
     |true=>
      simp only[Dw,cond_true] at h;have xf:=Region.free_spec ho Dw;refine oZ (F:=F) hs h (λe' cV hw lH=>?_) (λe' cV hw lH=>?_)
      ·obtain⟨v,Y,S',hy,hY,hk,Z8,Us⟩:=Nw hF.eqs cV.1 N2 lH hS;obtain⟨Ox,tE,hk⟩:=qu cV hk;have ih:=mY hF yg hQ hK f _ S' Ox _ w tE Z8 hk;exact wpAnyS_first ho (Region.noSelect_spec yg) (λc a w h=>(hQ _ _ _ h).elim) f (YS S) listed a w xf mu (.inl ⟨hw,hy⟩) hY hS (o9 _ _ _ _ _ _ Us ih)
      ·obtain⟨Ox,tE,hk⟩:=qu cV lH;have ih:=mY hF yg hQ hK f _ S Ox _ w tE hS hk;refine wpAnyS_first (Y:=λ_=>True) ho (Region.noSelect_spec yg) (λc a w h=>(hQ _ _ _ h).elim) f (YS S) listed a w xf mu (.inr ⟨hw,rfl⟩) trivial hS
        (o9 _ _ _ _ _ _ (λp hp=>by
         rcases afe.1 hp with rfl|hp
         ·exact .inr λ_=>trivial
         ·exact .inl hp) ih)
   |none=>
    simp only[hf] at h;refine⟨λh0=>(by rw[hr] at h0;cases h0),λi hi o ho=>?_⟩;have qJ:=Hi h i (by rw[<-hr];exact hi);simp only[ho] at qJ;unfold wpOp;simp only[ho];refine oZ (F:=F) hs qJ (λe' cV hw lH=>?_) (λe' cV hw lH=>?_)
    ·rw[if_pos hw];refine .inl (Fm (A7 hF.eqs hF.CN cV.1 lH) λv w' hv=>?_);obtain⟨hk,hv⟩:=Gr hv;obtain⟨Ox,tE,yh⟩:=qu cV hv;rw[<-O4];exact⟨hk,mY hF yg hQ hK f _ _ Ox _ w' tE hk yh⟩
    ·rw[if_neg (by rw[hw];exact aeq)];obtain⟨Ox,tE,yh⟩:=qu cV lH;have ih:=mY hF yg hQ hK f _ S Ox _ w tE hS yh;refine⟨λp hp=>hS p (List.mem_filter.1 hp).1,o9 _ _ _ _ _ _ (λp hp=>.inl (List.mem_filter.1 hp).1) ih⟩
def kh{n:Nat}{e:Env}{a:Act}(hs:Sub n e a):∀{l:List (Nat×Value)} {vs:LV},rL e l=some vs->
 (∀t v,lk (wg l vs []) t=some v->a.tmps[t]?=some v)/\vs=l.map (λp=>a.tmps.getD p.1 undef)/\(∀f,BY (l.map (·.2)) f->f vs)
 |[],vs,h=>by
  simp only[rL,aeh.injEq] at h;subst h;exact⟨λt v h=>by simp[wg,lk] at h,rfl,λf h=>h⟩
 |(t,z)::l,vs,h=>by
  simp only[rL] at h;cases h1:lk e t with
  |none=>simp[h1] at h
  |some v=>
   simp only[h1] at h;cases h2:fits z v with
   |false=>simp[h2] at h
   |true=>
    simp only[h2,cond_true] at h;cases h3:rL e l with
    |none=>simp[h3] at h
    |some us=>
     simp only[h3,aeh.injEq] at h;subst h;obtain⟨i1,i2,i3⟩:=kh hs h3;refine⟨λs u ZU=>?_,?_,λf hf=>?_⟩
     ·simp only[wg,sO] at ZU;split at ZU
      ·rename_i Il;subst Il;cases ZU;exact hs.get _ _ h1
      ·exact i1 s u ZU
     ·simp only[aez,<-i2];have:=hs.get t v h1;rw[Array.getD_eq_getD_getElem?,this];rfl
     ·simp only[aez,BY] at hf;have key:BY (l.map (·.2)) λvs=>f (v::vs):=by
       cases z<;>cases v<;>simp only[fits,aeo,decide_eq_true_eq] at h2<;>simp only[Zy] at hf<;>first
        |(rename_i p q;cases p<;>cases q<;>simp only[fits,aeo] at h2<;>exact hf _)
        |exact hf _
        |exact hf _ _ _
        |(subst h2;exact hf _)
        |(rename_i cs;exact hf cs.toList)
      exact i3 _ key
def JN:∀(l:List (Nat×Value))(vs:LV)(C:Env)(t:Nat)(v:Value),lk (wg l vs C) t=some v->lk (wg l vs []) t=some v\/lk C t=some v
 |[],vs,C,t,v,h=>by cases vs<;>(simp only[wg] at h;exact .inr h)
 |(s,z)::l,[],C,t,v,h=>by simp only[wg] at h;exact .inr h
 |(s,z)::l,u::vs,C,t,v,h=>by
  simp only[wg,sO] at h⊢;split at h
  ·rename_i rK;rw[if_pos rK];exact .inl h
  ·rename_i rK;rw[if_neg rK];exact JN l vs C t v h
def S2.zip(hs:S2 F e a){l:List (Nat×Value)}{vs:LV}(h:rL e l=some vs):S2 F (wg l vs F.C) a:=by
 refine⟨⟨hs.1.size,hs.1.defers,λt v ht=>?_⟩,hs.2⟩;rcases JN l vs F.C t v ht with h'|h'
 ·exact(kh hs.1 h).1 t v h'
 ·exact hs.2.get t v h'
def LS(hF:Ok F):∀(c:Code)(Q:Exit->Env->WK)(e:Env)(a:Act)(w:World),S2 F e a->den F c Q e w->c.wp F.P (QS F Q) a w:=by
 intro c
 induction c with
 |skip=>intro Q e a w hs h;exact wp_skip ⟨⟨e,hs,h⟩,by simp⟩
 |ret=>intro Q e a w hs h;exact wp_ret ⟨⟨e,hs,h⟩,by simp⟩
 |exit i=>intro Q e a w hs h;exact wp_exit ⟨⟨e,hs,h⟩,by simp⟩
 |seq x y ihx ihy=>
  intro Q e a w hs h;refine wp_seq (wp_mono (ihx _ e a w hs h) ?_);rintro ex a' w' ⟨⟨e',cV,hq⟩,hp⟩;cases ex<;>simp only[KE] at hq
  case normal=>exact ihy Q e' a' w' cV hq
  all_goals exact⟨⟨e',cV,hq⟩,hp⟩
 |cond x c1 c2 Xr Px=>
  intro Q e a w hs h;simp only[den] at h;cases hx:ev e x with
  |none=>simp only[hx,no] at h
  |some v=>
   cases v<;>simp only[hx,no] at h
   rename_i b;cases b with
   |true=>exact wp_cond_true (hs.1.eval hx) (Xr Q e a w hs h)
   |false=>exact wp_cond_false (hs.1.eval hx) (Px Q e a w hs h)
 |block i c ih=>
  intro Q e a w hs h;refine wp_block (wp_mono (ih _ e a w hs h) ?_);rintro ex a' w' ⟨⟨e',cV,hq⟩,hp⟩;cases ex<;>simp only[IU] at hq
  case exit j=>
   simp only[Exit.inBlock];cases hb:afi j i with
   |true=>rw[if_pos (aex hb)];simp only[hb,cond_true] at hq;exact⟨⟨e',cV,hq⟩,by simp⟩
   |false=>
    have gU:j≠i:=λh=>by simp[h] at hb
    rw[if_neg gU];simp only[hb,cond_false] at hq;exact⟨⟨e',cV,hq⟩,by simp⟩
  all_goals exact⟨⟨e',cV,hq⟩,hp⟩
 |loop c ih=>
  intro Q e a w hs h;simp only[den] at h;cases hl:Kn F.EW (key c) with
  |none=>simp only[hl,no] at h
  |some l=>
   simp only[hl] at h;cases hv:rL e l with
   |none=>simp only[hv,no] at h
   |some vs=>
    simp only[hv] at h;obtain⟨I,μ,h0,Io⟩:=h;have N1:=(kh hs.1 hv).2.1;refine wp_loop (λa w=>S2 F (wg l (l.map λp=>a.tmps.getD p.1 undef) F.C) a/\I (l.map λp=>a.tmps.getD p.1 undef) w/\∀f,BY (l.map (·.2)) f->f (l.map λp=>a.tmps.getD p.1 undef))
     (λa w=>μ (l.map λp=>a.tmps.getD p.1 undef) w) ?_ ?_
    ·rw[<-N1];exact⟨hs.zip hv,h0,(kh hs.1 hv).2.2⟩
    ·intro a1 w1 ⟨wa,hI1,fJ⟩;have hr:=fJ _ Io w1 hI1;refine wp_mono (ih _ _ a1 w1 wa hr) ?_;rintro ex a' w' ⟨⟨e',cV,hq⟩,hp⟩;cases ex<;>simp only[KE] at hq
     case normal=>
      simp only[NT] at hq;cases yV:rL e' l with
      |none=>simp only[yV,no] at hq
      |some B7=>
       simp only[yV] at hq;have Ip:=(kh cV.1 yV).2.1;simp only[Exit.then];rw[<-Ip];exact⟨⟨cV.zip yV,hq.1,(kh cV.1 yV).2.2⟩,hq.2⟩
     all_goals exact⟨⟨e',cV,hq⟩,hp⟩
 |region id ops draw=>
  intro Q e a w hs h;simp only[den] at h;cases draw with
  |true=>
   simp only[cond_true] at h;cases yg:Region.noSelect ops with
   |false=>simp only[yg,cond_false,no] at h
   |true=>
    simp only[yg,cond_true,tick] at h;refine wp_region_any hF.mixed ?_;rw[World.drew_eq];exact Aq _ _ _ _ _ (mY hF yg (λc a w=>Pd) (λe a w hs hk=>⟨⟨e,hs,hk⟩,by simp⟩) _ _ [] e a _ hs (by simp[YS]) h)
  |false=>
   simp only[cond_false] at h;refine wp_region (wy hF (λe a w hs hk=>⟨⟨e,hs,hk⟩,by simp⟩) (aft ops.size) ops.toList e a w (by simp) (λk i hk=>?_) hs h);rw[afq] at hk
   ·simp only[aeh.injEq] at hk;subst hk;simp
   ·have:=(adZ.1 hk).1;simpa using this
 |_=>intro Q e a w hs h;exact h.elim
def KK(P:Program)(e:Env):List ResultVar->(LV->WK)->WK
 |[],K=>K []
 | .tmp t::r,K=>match lk e t with
   |some v=>KK P e r λvs=>K (v::vs)
   |none=>no
 | .cell b t::r,K=>match lk e b with
   |some (.pointer (some a))=>wS P t a λ_ v=>KK P e r λvs=>K (v::vs)
   |_=>no
def T5(vs:LV):Value:=match vs with|[v]=>v|vs=>.tuple ⟨vs⟩
def T6(P:Program)(rs:List ResultVar)(K:VK)(e:Env):WK:=KK P e rs λvs=>K (T5 vs)
def aao(P:Program)(rs:List ResultVar)(K:VK):Exit->Env->WK
 | .normal,e=>T6 P rs K e
 | .ret,e=>T6 P rs K e
 |_,_=>no
def vm(Er:List Nat)(want:Bool):Nat->LV->Env
 |_,[]=>[]
 |i,v::vs=>bif IX (Er.any (afi i)) want then(i,v)::vm Er want (i+1) vs else vm Er want (i+1) vs
def Gm(m:List Nat)(b:Bool):∀(vs:LV)(i t:Nat)(v:Value),lk (vm m b i vs) t=some v->i<=t/\vs[t-i]?=some v
 |[],i,t,v,h=>by simp[vm,lk] at h
 |u::vs,i,t,v,h=>by
  simp only[vm] at h;have rest:lk (vm m b (i+1) vs) t=some v->i<=t/\(u::vs)[t-i]?=some v:=λh=>by
   obtain⟨h1,h2⟩:=Gm m b vs (i+1) t v h;refine⟨by omega,?_⟩;rw[show t-i=(t-(i+1))+1 from by omega];simpa using h2
  cases hb:IX (m.any (afi i)) b with
  |false=>simp only[hb,cond_false] at h;exact rest h
  |true=>
   simp only[hb,cond_true,sO] at h;split at h
   ·rename_i hit;subst hit;cases h;exact⟨ad4 _,by simp⟩
   ·exact rest h
def Dh:∀(e f:Env)(t:Nat)(v:Value),lk (e++f) t=some v->lk e t=some v\/lk f t=some v
 |[],f,t,v,h=>.inr h
 |(s,u)::e,f,t,v,h=>by
  simp only[afa,sO] at h⊢;split at h
  ·rename_i hs;rw[if_pos hs];exact .inl h
  ·rename_i hs;rw[if_neg hs];exact Dh e f t v h
def KO(tm:Array Value):ResultVar->Sem Value
 | .tmp t=>pure (tm.getD t undef)
 | .cell b t=>do loadVar t (<-asAddr (tm.getD b undef))
def H3(fn:Func)(tm:Array Value):results fn tm=(do let vs<-fn.results.mapM (KO tm);pure (if h:vs.size=1 then vs[0] else .tuple vs)):=by
 unfold results
 congr 1
def xO{n:Nat}{e:Env}{a:Act}(hs:Sub n e a):∀{rs:List ResultVar} {K:LV->WK},KK P e rs K w->∃vs,(rs.mapM (KO a.tmps)).run P w=.ok vs w/\K vs w
 |[],K,h=>⟨[],rfl,h⟩
 | .cell b t::r,K,h=>by
   simp only[KK] at h;cases h1:lk e b with
   |none=>simp only[h1,no] at h
   |some v=>
    cases v<;>simp only[h1,no] at h
    rename_i p;cases p with
    |none=>exact h.elim
    |some p=>
     simp only at h;obtain⟨v,cs,hH,hr,hk⟩:=sL h;obtain⟨vs,h2,hk⟩:=xO hs hk;have hg:a.tmps.getD b undef=.pointer (some p):=by rw[Array.getD_eq_getD_getElem?,hs.get b _ h1];rfl
     refine⟨v::vs,?_,hk⟩;have h3:(KO a.tmps (.cell b t)).run P w=.ok v w:=by
      simp only[KO,hg,asAddr,pure_bind];exact hr w hH
     rw[List.mapM_cons,Sem.run_bind,h3,Result.andThen_ok,Sem.run_bind,h2];rfl
 | .tmp t::r,K,h=>by
   simp only[KK] at h;cases h1:lk e t with
   |none=>simp only[h1,no] at h
   |some v=>
    simp only[h1] at h;obtain⟨vs,h2,hk⟩:=xO hs h;have hg:a.tmps.getD t undef=v:=by rw[Array.getD_eq_getD_getElem?,hs.get t v h1];rfl
    refine⟨v::vs,?_,hk⟩;rw[List.mapM_cons,Sem.run_bind,KO,Sem.run_pure,Result.andThen_ok,Sem.run_bind,h2,hg];rfl
def body(P:Program)(T:B9)(E:Po)(n:Nat)(m:List Nat)(EW:List (Nat×List (Nat×Value)))(rs:List ResultVar)(c:Code):WP:=λargs K=>
 den ⟨P,T,E,n,vm m false 0 args,EW⟩ c (aao P rs K) (vm m true 0 args++vm m false 0 args)
def Om{P:Program}{T:B9}{E:Po}{g:Nat}{fn:Func}{c:Code}{p:WP}(m:List Nat)(EW:List (Nat×List (Nat×Value)))(hT:ko P T)(hE:og P E)(hm:P.follows .mixedOrders=true)
 (hf:P.funcs[g]?=some fn)(hb:fn.body=some c)(XP:(fn.name== "runtime.NumGoroutine")=false)(hp:∀args K w,p args K w->args.length<=fn.ntmps/\body P T E fn.ntmps m EW fn.results.toList c args K w):Entry P g p:=by
 refine⟨⟨fn,hf,XP,by rw[hb];rfl⟩,λargs K w h=>?_⟩;obtain⟨hlen,h⟩:=hp args K w h;refine calls_of_wp hf hb ?_;have ou:(⟨args⟩++ae7 (fn.ntmps-(⟨args⟩:Array Value).size) undef:Array Value).size=fn.ntmps:=by
  simp;omega
 have xd:∀(b:Bool) t v,lk (vm m b 0 args) t=some v->(⟨args⟩++ae7 (fn.ntmps-(⟨args⟩:Array Value).size) undef:Array Value)[t]?=some v:=λb t v ht=>by
  obtain⟨_,h2⟩:=Gm m b args 0 t v ht;simp only[Nat.sub_zero] at h2;have aZ:t<args.length:=(adZ.1 h2).1;rw[Array.getElem?_append_left (by simpa using aZ)];simpa using h2
 refine wp_mono (LS ⟨hT,hE,hm⟩ c _ _ ⟨⟨args⟩++ae7 (fn.ntmps-(⟨args⟩:Array Value).size) undef,[]⟩ w ⟨⟨ou,rfl,λt v ht=>?_⟩,⟨ou,rfl,λt v ht=>xd false t v ht⟩⟩ h) ?_
 ·rcases Dh _ _ t v ht with h'|h'
  ·exact xd true t v h'
  ·exact xd false t v h'
 ·rintro ex a' w' ⟨⟨e',cV,hq⟩,hpn⟩;have fin:T6 P fn.results.toList K e' w'->a'.defers=[]/\∃v,(results fn a'.tmps).run P w'=.ok v w'/\∃u,(Ending.returned v)=.returned u/\K u w':=by
   intro hr;obtain⟨vs,this,hk⟩:=xO cV.1 hr;refine⟨cV.1.defers,T5 vs,?_,_,rfl,hk⟩;have J3:(fn.results.mapM (KO a'.tmps)).run P w'=.ok ⟨vs⟩ w':=by
    rw[<-Array.toArray_toList (xs:=fn.results),List.mapM_toArray,Sem.run_map,this];rfl
   rw[H3,Sem.run_bind,J3];simp only[Result.andThen_ok,Sem.run_pure]
   congr 1
   unfold T5;cases vs with
   |nil=>rfl
   |cons v vs=>
    cases vs with
    |nil=>rfl
    |cons u vs=>simp
  cases ex with
  |normal=>exact fin hq
  |ret=>exact fin hq
  |exit i=>exact hq.elim
  |goto i=>exact hq.elim
  |panic c=>exact absurd rfl (hpn c)
  |outgrown=>exact hq.elim
end
end Go.Den
namespace Go.Sep
open Go.Den Go.RowKit
inductive ME where
 |cells(cs:LV)
 |obj(o:Obj)
abbrev HP:=(Nat->Option ME)->Prop
abbrev LH:=List HP
def view(w:World)(b:Nat):Option ME:=
 match w.heap[b]? with
 |some (.cells c _ fz)=>if c.size<=fz.1\/fz.2=0 then some (.cells c.toList) else none
 |some o=>some (.obj o)
 |none=>none
def sep(A B:HP):HP:=λh=>∃h1 h2,(∀b,h1 b=none\/h2 b=none)/\(∀b,h b=(h1 b).or (h2 b))/\A h1/\B h2
def zq:LH->HP
 |[]=>λ_=>True
 |A::L=>sep A (zq L)
def pt(b:Nat)(cs:LV):HP:=λh=>h b=some (.cells cs)
def ob(b:Nat)(o:Obj):HP:=λh=>h b=some (.obj o)
def Te{α:Type}(f:α->HP):HP:=λh=>∃x,f x h
def L7(p:Prop)(A:HP):HP:=λh=>p/\A h
def St(W w:World)(L:LH):Prop:=Below W.heap.size W w/\∃h,zq L h/\∀b cs,h b=some cs->W.heap.size<=b/\view w b=some cs
def wz{A B:HP}{h:Nat->Option ME}(x:sep A B h):sep B A h:=by
 obtain⟨h1,h2,hd,hu,ha,hb⟩:=x;refine⟨h2,h1,λb=>(hd b).symm,λb=>?_,hb,ha⟩;rw[hu b];rcases hd b with h|h<;>simp[h]
def uE{A B C:HP}{h:Nat->Option ME}(x:sep (sep A B) C h):sep A (sep B C) h:=by
 obtain⟨km,h3,hd,hu,⟨h1,h2,S6,hu',ha,hb⟩,hc⟩:=x;refine⟨h1,λb=>(h2 b).or (h3 b),λb=>?_,λb=>?_,ha,h2,h3,λb=>?_,λb=>rfl,hb,hc⟩
 ·rcases S6 b with h|h
  ·exact .inl h
  ·rcases hd b with g|g
   ·rw[hu' b,h] at g;left;simpa using g
   ·right;simp[h,g]
 ·rw[hu b,hu' b];simp[Option.or_assoc]
 ·rcases hd b with g|g
  ·rw[hu' b] at g;simp at g;exact .inl g.2
  ·exact .inr g
def AK{A B C:HP}{h:Nat->Option ME}(x:sep A (sep B C) h):sep (sep A B) C h:=
 wz (uE (wz (uE (wz x))))
def AJ{A B A' B':HP}{h:Nat->Option ME}(x:sep A B h)(ha:∀g,A g->A' g)(hb:∀g,B g->B' g):sep A' B' h:=by
 obtain⟨h1,h2,hd,hu,a,b⟩:=x;exact⟨h1,h2,hd,hu,ha _ a,hb _ b⟩
def KF{L M:LH}(p:L.Perm M):∀h,zq L h->zq M h:=by
 induction p with
 |nil=>exact λh x=>x
 |cons A _ ih=>exact λh x=>AJ x (λ_ a=>a) ih
 |swap A B l=>exact λh x=>uE (AJ (AK x) (λ_ y=>wz y) λ_ y=>y)
 |trans _ _ Xr Px=>exact λh x=>Px h (Xr h x)
def St.perm{W w:World}{L M:LH}(h:St W w L)(p:L.Perm M):St W w M:=
 let⟨hb,g,hs,hv⟩:=h;⟨hb,g,KF p g hs,hv⟩
def o0{α:Type}:∀{L:List α} {k:Nat} {A:α},L[k]?=some A->L.Perm (A::L.eraseIdx k)
 |[],k,A,h=>by simp at h
 |B::L,0,A,h=>by simp at h;subst h;simp
 |B::L,k+1,A,h=>by
  simp only[aed] at h;exact((o0 h).cons B).trans (aem.swap _ _ _)
def set_perm{α:Type}:∀{L:List α} {k:Nat} {A B:α},L[k]?=some A->(B::L.eraseIdx k).Perm (L.set k B)
 |[],k,A,B,h=>by simp at h
 |C::L,0,A,B,h=>by simp
 |C::L,k+1,A,B,h=>by
  simp only[aed] at h;exact(aem.swap _ _ _).trans ((set_perm h).cons C)
def St.focus{W w:World}{L:LH}{k:Nat}{A:HP}(h:St W w L)(hk:L[k]?=some A):St W w (A::L.eraseIdx k):=h.perm (o0 hk)
def St.nJ{W w:World}{L:LH}{k:Nat}{A B:HP}(h:St W w (B::L.eraseIdx k))(hk:L[k]?=some A):St W w (L.set k B):=h.perm (set_perm hk)
def St.drop{W w:World}{A:HP}{L:LH}(h:St W w (A::L)):St W w L:=by
 obtain⟨hb,g,⟨h1,h2,hd,hu,ha,hl⟩,hv⟩:=h;refine⟨hb,h2,hl,λb cs PK=>hv b cs ?_⟩;rw[hu b];rcases hd b with h|h
 ·simp[h,PK]
 ·rw[h] at PK;cases PK
def St.mono{W w:World}{A B:HP}{L:LH}(h:St W w (A::L))(PO:∀g,A g->B g):St W w (B::L):=
 let⟨hb,g,hs,hv⟩:=h;⟨hb,g,AJ hs PO λ_ y=>y,hv⟩
def St.ex{α:Type}{W w:World}{f:α->HP}{L:LH}(h:St W w (Te f::L)):∃x,St W w (f x::L):=by
 obtain⟨hb,g,⟨h1,h2,hd,hu,⟨x,hx⟩,hl⟩,hv⟩:=h;exact⟨x,hb,g,⟨h1,h2,hd,hu,hx,hl⟩,hv⟩
def St.nV{α:Type}{W w:World}{f:α->HP}{L:LH}(x:α)(h:St W w (f x::L)):St W w (Te f::L):=h.mono λ_ hx=>⟨x,hx⟩
def St.and{W w:World}{p:Prop}{A:HP}{L:LH}(h:St W w (L7 p A::L)):p/\St W w (A::L):=by
 obtain⟨hb,g,⟨h1,h2,hd,hu,⟨hp,hx⟩,hl⟩,hv⟩:=h;exact⟨hp,hb,g,⟨h1,h2,hd,hu,hx,hl⟩,hv⟩
def St.and_intro{W w:World}{p:Prop}{A:HP}{L:LH}(hp:p)(h:St W w (A::L)):St W w (L7 p A::L):=h.mono λ_ hx=>⟨hp,hx⟩
def St.split{W w:World}{A B:HP}{L:LH}(h:St W w (sep A B::L)):St W w (A::B::L):=
 let⟨hb,g,hs,hv⟩:=h;⟨hb,g,uE hs,hv⟩
def St.join{W w:World}{A B:HP}{L:LH}(h:St W w (A::B::L)):St W w (sep A B::L):=
 let⟨hb,g,hs,hv⟩:=h;⟨hb,g,AK hs,hv⟩
def St.below{W w:World}{L:LH}(h:St W w L):Below W.heap.size W w:=h.1
def wj{w:World}{b:Nat}{x:ME}(h:view w b=some x):b<w.heap.size:=by
 unfold view at h;cases hb:w.heap[b]? with
 |none=>simp[hb] at h
 |some x=>exact(Array.getElem?_eq_some_iff.1 hb).1
def Kx{w:World}{b o:Nat}{cs:LV}(h:view w b=some (.cells cs)):w.cell? ⟨b,o,none⟩=cs[o]?/\(o<cs.length->w.frozen? ⟨b,o,none⟩=false)/\b<w.heap.size:=by
 have aZ:=wj h;unfold view at h;cases hb:w.heap[b]? with
 |none=>simp[hb] at h
 |some x=>
  cases x<;>simp only[hb,reduceCtorEq,aeh.injEq] at h
  rename_i c e fz;split at h
  ·rename_i Z2;simp only[aeh.injEq,ME.cells.injEq] at h;subst h;refine⟨by simp[World.cell?,hb],λho=>?_,aZ⟩;simp only[World.frozen?,hb];obtain⟨lo,hi⟩:=fz;simp at Z2 ho⊢;omega
  ·cases h
def MM{w:World}{b:Nat}{o:Obj}(h:view w b=some (.obj o)):w.heap[b]?=some o:=by
 unfold view at h;cases hb:w.heap[b]? with
 |none=>simp[hb] at h
 |some x=>
  cases x<;>simp only[hb,aeh.injEq,ME.obj.injEq] at h<;>first|(subst h;rfl)|(split at h<;>cases h)
def St.cell{W w:World}{L:LH}{k b o:Nat}{cs:LV}(h:St W w L)(hk:L[k]?=some (pt b cs)):
 w.cell? ⟨b,o,none⟩=cs[o]?/\(o<cs.length->w.frozen? ⟨b,o,none⟩=false)/\b<w.heap.size/\W.heap.size<=b:=by
 obtain⟨hb,g,⟨h1,h2,hd,hu,ha,hl⟩,hv⟩:=h.focus hk;have hg:g b=some (.cells cs):=by rw[hu b];simp only[pt] at ha;simp[ha]
 obtain⟨h3,h4⟩:=hv b _ hg;obtain⟨h5,h6,h7⟩:=Kx (o:=o) h4;exact⟨h5,h6,h7,h3⟩
def St.obj{W w:World}{L:LH}{k b:Nat}{o:Obj}(h:St W w L)(hk:L[k]?=some (ob b o)):w.heap[b]?=some o/\W.heap.size<=b:=by
 obtain⟨hb,g,⟨h1,h2,hd,hu,ha,hl⟩,hv⟩:=h.focus hk;have hg:g b=some (.obj o):=by rw[hu b];simp only[ob] at ha;simp[ha]
 obtain⟨h3,h4⟩:=hv b _ hg;exact⟨MM h4,h3⟩
def wi{w:World}{b o:Nat}{cs:LV}{v:Value}(h:view w b=some (.cells cs)):view (w.setCell ⟨b,o,none⟩ v) b=some (.cells (cs.set o v)):=by
 unfold view at h⊢;cases hb:w.heap[b]? with
 |none=>simp[hb] at h
 |some x=>
  cases x<;>simp only[hb,reduceCtorEq,aeh.injEq] at h
  rename_i c e fz;have:(w.setCell ⟨b,o,none⟩ v).heap[b]?=some (.cells (c.setIfInBounds o v) e fz):=by
   simp[World.setCell,Array.getElem?_modify,hb]
  simp only[this,Array.size_setIfInBounds];split at h
  ·rename_i Z2;simp only[aeh.injEq,ME.cells.injEq] at h;subst h;rw[if_pos Z2];simp
  ·cases h
def sx{w w':World}{b:Nat}(h:w'.heap[b]?=w.heap[b]?):view w' b=view w b:=by unfold view;rw[h]
def St.Sq{W w w':World}{L:LH}{k b:Nat}{x x':ME}(h:St W w L)(hk:L[k]?=some (λh=>h b=some x))(hb:Below W.heap.size W w')
 (yV:view w' b=some x')(ho:∀j,j≠b->j<w.heap.size->w'.heap[j]?=w.heap[j]?):St W w' (L.set k (λh=>h b=some x')):=by
 refine St.nJ (A:=λh=>h b=some x) ?_ hk;obtain⟨_,g,⟨h1,h2,hd,hu,ha,hl⟩,hv⟩:=h.focus hk;have gF:W.heap.size<=b:=(hv b x (by rw[hu b];simp[ha])).1;refine⟨hb,λj=>if j=b then some x' else g j,⟨λj=>if j=b then some x' else h1 j,h2,λj=>?_,λj=>?_,by simp,hl⟩,λj ds hj=>?_⟩
 ·by_cases e:j=b
  ·subst e;right;rcases hd j with h|h
   ·rw[h] at ha;cases ha
   ·exact h
  ·simpa [e] using hd j
 ·by_cases e:j=b
  ·subst e;simp
  ·simp[e,hu j]
 ·by_cases e:j=b
  ·subst e;simp at hj;subst hj;exact⟨gF,yV⟩
  ·simp[e] at hj;obtain⟨h3,h4⟩:=hv j ds hj;have aZ:j<w.heap.size:=wj h4;exact⟨h3,by rw[sx (ho j e aZ)];exact h4⟩
def St.aF{W w w':World}{L:LH}{k b:Nat}{cs rB:LV}(h:St W w L)(hk:L[k]?=some (pt b cs))(hb:Below W.heap.size W w')
 (yV:view w' b=some (.cells rB))(ho:∀j,j≠b->j<w.heap.size->w'.heap[j]?=w.heap[j]?):St W w' (L.set k (pt b rB)):=h.Sq hk hb yV ho
def St.set{W w:World}{L:LH}{k b o:Nat}{cs:LV}(v:Value)(h:St W w L)(hk:L[k]?=some (pt b cs)):St W (w.setCell ⟨b,o,none⟩ v) (L.set k (pt b (cs.set o v))):=by
 have hc:=h.cell (o:=o) hk;obtain⟨_,g,⟨h1,h2,hd,hu,ha,hl⟩,hv⟩:=h.focus hk;have hvw:=(hv b (.cells cs) (by rw[hu b];simp only[pt] at ha;simp[ha])).2;exact h.aF hk (h.1.setCell (p:=⟨b,o,none⟩) hc.2.2.2 v) (wi hvw) (λj hj _=>Below.heap_setCell w ⟨b,o,none⟩ v j hj)
def HI{w:World}{cs:LV}{t:TypeId}:view (w.alloc (.cells ⟨cs⟩ t)) w.heap.size=some (.cells cs):=by
 have:(w.alloc (.cells ⟨cs⟩ t)).heap[w.heap.size]?=some (.cells ⟨cs⟩ t):=by
  show(w.heap.push (.cells ⟨cs⟩ t))[w.heap.size]?=_;rw[Array.getElem?_push_size]
 unfold view;rw[this];simp
def St.Xf{W w:World}{L:LH}(h:St W w L)(o:Obj){x:ME}(hx:view (w.alloc o) w.heap.size=some x):St W (w.alloc o) ((λh=>h w.heap.size=some x)::L):=by
 obtain⟨hb,g,hs,hv⟩:=h;have hle:=hb.size;have X5:g w.heap.size=none:=by
  cases hg:g w.heap.size with
  |none=>rfl
  |some ds=>exact absurd (wj (hv _ _ hg).2) (by omega)
 refine⟨hb.alloc hle _,λj=>if j=w.heap.size then some x else g j,⟨λj=>if j=w.heap.size then some x else none,g,λj=>?_,λj=>?_,by simp,hs⟩,λj ds hj=>?_⟩
 ·by_cases e:j=w.heap.size
  ·subst e;exact .inr X5
  ·simp[e]
 ·by_cases e:j=w.heap.size
  ·subst e;simp
  ·simp[e]
 ·by_cases e:j=w.heap.size
  ·subst e;simp at hj;subst hj;exact⟨hle,hx⟩
  ·simp[e] at hj;obtain⟨h3,h4⟩:=hv j ds hj;exact⟨h3,by rw[sx (Below.heap_alloc w _ j (wj h4))];exact h4⟩
def St.new{W w:World}{L:LH}(h:St W w L)(cs:LV)(t:TypeId):St W (w.alloc (.cells ⟨cs⟩ t)) (pt w.heap.size cs::L):=h.Xf _ HI
def St.drew{W w:World}{L:LH}(h:St W w L):St W w.drew L:=
 let⟨hb,g,hs,hv⟩:=h;⟨hb.drew,g,hs,hv⟩
def St.pC{W w w':World}{L:LH}(h:St W w L)(hb:Below w.heap.size w w'):St W w' L:=by
 obtain⟨hB,g,hs,hv⟩:=h;refine⟨hB.trans (hb.mono hB.size),g,hs,λb cs hc=>?_⟩;obtain⟨h1,h2⟩:=hv b cs hc;exact⟨h1,by rw[sx (hb.block b (wj h2))];exact h2⟩
def St.start(W:World):St W W []:=⟨Below.refl _ _,λ_=>none,trivial,λb cs h=>by cases h⟩
section
variable {w:World}
def Sj(k:IntKind)(K:Int->WK)(n:Int)(w:World):xI k K (.int k n) w=K n w:=by
 simp[xI]
def MH(K:Bool->WK)(b:Bool)(w:World):xB K (.bool b) w=K b w:=by simp[xB]
def MG(K:BA->WK)(s:BA)(w:World):xS K (.string s) w=K s w:=by simp[xS]
def Sh(K:OA->WK)(p:OA)(w:World):xP K (.p p) w=K p w:=by simp[xP]
def Si(K:OA->Nat->Nat->WK)(b:OA)(n c:Nat)(w:World):xL K (.l b n c) w=K b n c w:=
 propext ⟨λ⟨_,_,_,h,hk⟩=>by cases h;exact hk,λh=>⟨_,_,_,rfl,h⟩⟩
def tj(n:Nat)(K:LV->WK)(cs:LV)(w:World):xA n K (.agg ⟨cs⟩) w=(cs.length=n/\K cs w):=by
 simp[xA]
def Sm(K:WK)(w:World):x0 K (.tuple ⟨[]⟩) w=K w:=by simp[x0]
def Sl(K:Value->Value->WK)(a b:Value)(w:World):x2 K (.tuple ⟨[a,b]⟩) w=K a b w:=
 propext ⟨λ⟨_,_,h,hk⟩=>by cases h;exact hk,λh=>⟨_,_,rfl,h⟩⟩
def Sk(K:Value->Value->Value->WK)(a b c:Value)(w:World):x3 K (.tuple ⟨[a,b,c]⟩) w=K a b c w:=
 propext ⟨λ⟨_,_,_,h,hk⟩=>by cases h;exact hk,λh=>⟨_,_,_,rfl,h⟩⟩
def gW(X Y:WK):br true X Y=X:=rfl
def cf(X Y:WK):br false X Y=Y:=rfl
def zX(a:Addr)(K:Addr->WK):nn (some a) K=K a:=rfl
def Vx(p:Prop)(K:WK)(w:World):a8 p K w=(p/\K w):=rfl
def dZ(b o n:Nat):(⟨b,o,none⟩:Addr).add n=⟨b,o+n,none⟩:=by
 unfold Addr.add;split
 ·rename_i h;subst h;rfl
 ·rfl
def pB{b:Bool}{X Y:WK}(h1:b=true->X w)(h2:b=false->Y w):br b X Y w:=by
 cases b with
 |true=>exact h1 rfl
 |false=>exact h2 rfl
def dc{p:Prop}[Decidable p]{X Y:WK}(h1:p->X w)(h2: ¬p->Y w):br (decide p) X Y w:=
 pB (λh=>h1 (of_decide_eq_true h)) (λh=>h2 (of_decide_eq_false h))
def DQ{x y:Int}{X Y:WK}(h1:x=y->X w)(h2:x≠y->Y w):br (x==y) X Y w:=
 pB (λh=>h1 (by simpa using h)) (λh=>h2 (by simpa using h))
def qD{x y:Int}{X Y:WK}(h1:x≠y->X w)(h2:x=y->Y w):br (x !=y) X Y w:=
 pB (λh=>h1 (by simpa using h)) (λh=>h2 (by simpa using h))
end
def nz:(∀(a:Addr)(K:Addr->WK),nn (some a) K=K a)/\(∀b o n:Nat,(⟨b,o,none⟩:Addr).add n=⟨b,o+n,none⟩)/\(∀n:Nat,0+n=n)/\(∀n:Nat,n+0=n)/\
 (∀(α:Type)(a:α),(some a).isNone=false)/\(∀α:Type,(none:Option α).isNone=true)/\(∀X Y:WK,br true X Y=X)/\(∀X Y:WK,br false X Y=Y)/\((!true)=false)/\((!false)=true)/\
 (∀(k:IntKind)(K:Int->WK)(n:Int)(w:World),xI k K (.int k n) w=K n w)/\(∀(K:Bool->WK)(b:Bool)(w:World),xB K (.bool b) w=K b w)/\(∀(K:BA->WK)(s:BA)(w:World),xS K (.string s) w=K s w)/\
 (∀(K:OA->WK)(p:OA)(w:World),xP K (.p p) w=K p w)/\(∀(K:OA->Nat->Nat->WK)(b:OA)(n c:Nat)(w:World),xL K (.l b n c) w=K b n c w)/\
 (∀(K:WK)(w:World),x0 K (.tuple ⟨[]⟩) w=K w)/\(∀(K:Value->Value->WK)(a b:Value)(w:World),x2 K (.tuple ⟨[a,b]⟩) w=K a b w)/\(∀(K:Value->Value->Value->WK)(a b c:Value)(w:World),x3 K (.tuple ⟨[a,b,c]⟩) w=K a b c w)/\
 (∀(p:Prop)(K:WK)(w:World),a8 p K w=(p/\K w))/\(∀p:Prop,(True/\p)=p)/\(∀p:Prop,(p/\True)=p)/\
 (∀(α:Type 1)(a b:α)(l:List α),(a::l).set 0 b=b::l)/\(∀(α:Type 1)(a b:α)(l:List α)(n:Nat),(a::l).set (n+1) b=a::l.set n b)/\(∀(α:Type 1)(a:α)(l:List α),(a::l).eraseIdx 0=l)/\(∀(α:Type 1)(a:α)(l:List α)(n:Nat),(a::l).eraseIdx (n+1)=a::l.eraseIdx n)/\
 (∀(α:Type)(a b:α)(l:List α),(a::l).set 0 b=b::l)/\(∀(α:Type)(a b:α)(l:List α)(n:Nat),(a::l).set (n+1) b=a::l.set n b)/\(∀(α:Type)(a:α)(l:List α),(a::l).eraseIdx 0=l)/\(∀(α:Type)(a:α)(l:List α)(n:Nat),(a::l).eraseIdx (n+1)=a::l.eraseIdx n):=
 ⟨zX,dZ,ad1,aeT,λ_ _=>rfl,λ_=>rfl,gW,cf,rfl,rfl,Sj,MH,MG,Sh,Si,Sm,Sl,Sk,Vx,λ_=>true_and _,λ_=>and_true _,λ_ _ _ _=>rfl,λ_ _ _ _ _=>rfl,λ_ _ _=>rfl,λ_ _ _ _=>rfl,λ_ _ _ _=>rfl,λ_ _ _ _ _=>rfl,λ_ _ _=>rfl,λ_ _ _ _=>rfl⟩
def bz:(∀(p:Prop) [Decidable p],(decide p=true)=p)/\(∀(p:Prop) [Decidable p],(decide p=false)= ¬p)/\(∀b:Bool,((!b)=true)=(b=false))/\(∀b:Bool,((!b)=false)=(b=true))/\((true=false)=False)/\((false=true)=False)/\
 (∀(a b:Int),((a==b)=true)=(a=b))/\(∀(a b:Int),((a==b)=false)= ¬a=b)/\(∀(a b:Int),((a !=b)=true)= ¬a=b)/\(∀(a b:Int),((a !=b)=false)=(a=b))/\(∀(α:Type)(a b:α),(a≠b)= ¬a=b)/\(∀p:Prop,(¬ ¬p)=p)/\((!true)=false)/\((!false)=true):=by
 refine⟨λp _=>by simp,λp _=>by simp,λb=>by cases b<;>simp,λb=>by cases b<;>simp,by simp,by simp,λa b=>by simp,λa b=>by simp,λa b=>by simp,λa b=>by simp,λ_ a b=>rfl,λp=>by simp,rfl,rfl⟩
section
variable {W w:World} {L:LH} {k:Nat}
def SJ{a:Addr}{v:Value}{K:VK}(h:w.cell? a=some v)(hk:K v w):ld a K w:=⟨v,h,hk⟩
def bn{b o:Nat}{cs:LV}{v:Value}{K:VK}(h:St W w L)(hk:L[k]?=some (pt b cs))(hv:cs[o]?=some v)(hK:K v w):ld ⟨b,o,none⟩ K w:=
 ⟨v,by rw[(h.cell hk).1,hv],hK⟩
def kP{b o:Nat}{cs:LV}{v:Value}{K:WK}(h:St W w L)(hk:L[k]?=some (pt b cs))(ho:o<cs.length)(h1:v.oneCell'=true)
 (hK:∀w',St W w' (L.set k (pt b (cs.set o v)))->K w'):st ⟨b,o,none⟩ v K w:=by
 obtain⟨h2,h3,_⟩:=h.cell (o:=o) hk;exact⟨h1,⟨cs[o],by rw[h2];simp[ho]⟩,h3 ho,hK _ (h.set v hk)⟩
def fE{cs:LV}{K:Nat->WK}(h:St W w L)(hK:∀r w',St W w' (pt r cs::L)->K r w'):mk cs K w:=λt=>hK _ _ (h.new cs t)
def iP{K:WK}(h:St W w L)(hK:∀w',St W w' L->K w'):tick K w:=hK _ h.drew
def so{b o:Nat}{cs xs:LV}(h:St W w L)(hk:L[k]?=some (pt b cs))(hx:∀j v,xs[j]?=some v->cs[o+j]?=some v):tB w ⟨b,o,none⟩ xs:=λj v hj=>by
 rw[dZ,(h.cell hk).1];exact hx j v hj
def JR{b o:Nat}{cs xs:LV}{K:WK}(h:St W w L)(hk:L[k]?=some (pt b cs))(hx:∀j v,xs[j]?=some v->cs[o+j]?=some v)(hK:K w):kp ⟨b,o,none⟩ xs K w:=
 ⟨so h hk hx,hK⟩
def gB{b o:Nat}{cs:LV}{v:Value}{K:WK}(h:St W w L)(hk:L[k]?=some (pt b cs))(hx:cs[o]?=some v)(hK:K w):kp ⟨b,o,none⟩ [v] K w:=
 JR h hk (λj u hj=>by
  cases j with
  |zero=>simp at hj;subst hj;exact hx
  |succ j=>simp at hj) hK
def gg{b o n:Nat}{cs xs:LV}{K:LV->WK}(h:St W w L)(hk:L[k]?=some (pt b cs))(hl:xs.length=n)(hx:∀j v,xs[j]?=some v->cs[o+j]?=some v)(hK:K xs w):ai ⟨b,o,none⟩ n K w:=
 ⟨xs,hl,so h hk hx,hK⟩
def over(cs:LV)(o:Nat)(xs:LV):LV:=cs.take o++xs++cs.drop (o+xs.length)
def F9{cs:LV}{o:Nat}{xs:LV}(h:o+xs.length<=cs.length):(over cs o xs).length=cs.length:=by
 simp[over];omega
def wK{cs:LV}{o:Nat}{xs:LV}(h:o+xs.length<=cs.length)(j:Nat):(over cs o xs)[j]?=if j<o then cs[j]? else if j<o+xs.length then xs[j-o]? else cs[j]?:=by
 unfold over;rw[ad5];by_cases h1:j<o
 ·rw[if_pos h1,ael (by simp;omega),List.getElem?_take_of_lt h1]
 ·rw[if_neg h1,aey (by simp;omega)];have e:(cs.take o).length=o:=by simp;omega
  rw[e];by_cases h2:j<o+xs.length
  ·rw[if_pos h2,ael (by omega)]
  ·rw[if_neg h2,aey (by omega),afd]
   congr 1;omega
def NC{cs:LV}{o:Nat}{v:Value}{xs:LV}(h:o+(xs.length+1)<=cs.length):over (cs.set o v) (o+1) xs=over cs o (v::xs):=by
 apply afg;intro j;rw[wK (by simp;omega),wK (by simpa using h)];by_cases h1:j<o
 ·rw[if_pos (by omega),if_pos h1,List.getElem?_set_ne (by omega)]
 ·by_cases h2:j=o
  ·subst h2;rw[if_pos (by omega),if_neg (by omega),if_pos (by simp)];have:j<cs.length:=by omega
   simp[this]
  ·rw[if_neg (by omega),if_neg h1];by_cases h3:j<o+(xs.length+1)
   ·rw[if_pos (by omega),if_pos (by simpa using h3)];obtain⟨m,rfl⟩:∃m,j=o+1+m:=⟨j-(o+1),by omega⟩;rw[show o+1+m-o=m+1 from by omega,show o+1+m-(o+1)=m from by omega]
    rfl
   ·rw[if_neg (by omega),if_neg (by simpa using h3),List.getElem?_set_ne (by omega)]
def jQ{α:Type}:∀{L:List α} {k:Nat} {A:α},L[k]?=some A->L.set k A=L
 |[],k,A,h=>by simp at h
 |B::L,0,A,h=>by simp at h;subst h;rfl
 |B::L,k+1,A,h=>by simp only[aed] at h;simp only[afc,jQ h]
def St.vA:∀(xs:LV) {w:World} {L:LH} {b:Nat}(o i:Nat) {cs:LV},St W w L->L[k]?=some (pt b cs)->o+i+xs.length<=cs.length->(∀v∈xs,v.oneCell'=true)->
 th w ⟨b,o,none⟩ i xs/\St W (Den.vA w ⟨b,o,none⟩ i xs) (L.set k (pt b (over cs (o+i) xs)))
 |[],w,L,b,o,i,cs,h,hk,hl,h1=>by
  refine⟨⟨by simp,by simp⟩,?_⟩;have:over cs (o+i) []=cs:=by simp[over]
  rw[this,jQ hk];exact h
 |v::xs,w,L,b,o,i,cs,h,hk,hl,h1=>by
  have yh:(L.set k (pt b (cs.set (o+i) v)))[k]?=some (pt b (cs.set (o+i) v)):=by
   have:=(adZ.1 hk).1;simp[this]
  have h2:=h.set (o:=o+i) v hk;obtain⟨hc,hs⟩:=St.vA xs o (i+1) h2 yh (by simp at hl⊢;omega) (λu hu=>h1 u (by simp[hu]));refine⟨⟨h1,λj hj=>?_⟩,?_⟩
  ·rw[dZ];obtain⟨g1,g2,_⟩:=h.cell (o:=o+(i+j)) hk;simp only[aee] at hl hj;have aZ:o+(i+j)<cs.length:=by omega
   exact⟨⟨cs[o+(i+j)],by rw[g1];simp[aZ]⟩,g2 aZ⟩
  ·simp only[Den.vA];rw[dZ,afb] at *;have e:=NC (cs:=cs) (o:=o+i) (v:=v) (xs:=xs) (by simp at hl;omega);rw[show o+(i+1)=o+i+1 from by omega,e] at hs;exact hs
def fX{b o:Nat}{cs xs:LV}{K:WK}(h:St W w L)(hk:L[k]?=some (pt b cs))(hl:o+xs.length<=cs.length)(h1:∀v∈xs,v.oneCell'=true)
 (hK:∀w',St W w' (L.set k (pt b (over cs o xs)))->K w'):gp ⟨b,o,none⟩ xs K w:=by
 obtain⟨hc,hs⟩:=St.vA xs o 0 h hk (by omega) h1;exact⟨hc,hK _ hs⟩
end
def own(b:OA)(n c e:Nat)(xs:LV):HP:=λh=>
 xs.length=n* e/\((b=none/\n=0/\c=0)\/∃r sp,b=some ⟨r,0,none⟩/\n<=c/\sp.length=(c-n)* e/\pt r (xs++sp) h)
section
variable {W w:World} {L:LH} {k:Nat} {b:OA} {n c e:Nat} {xs:LV}
def St.push{A:HP}(h:St W w L)(ha:A λ_=>none):St W w (A::L):=by
 obtain⟨hb,g,hs,hv⟩:=h;exact⟨hb,g,⟨λ_=>none,g,λb=>.inl rfl,λb=>by simp,ha,hs⟩,hv⟩
def nO(e:Nat):own none 0 0 e [] λ_=>none:=⟨by simp,.inl ⟨rfl,rfl,rfl⟩⟩
def St.lQ(h:St W w L)(hk:L[k]?=some (own b n c e xs)):xs.length=n* e/\
 ((b=none/\n=0/\c=0)\/∃r sp,b=some ⟨r,0,none⟩/\n<=c/\sp.length=(c-n)* e/\St W w (L.set k (pt r (xs++sp)))):=by
 obtain⟨hb,g,⟨h1,h2,hd,hu,⟨hl,ha⟩,hs⟩,hv⟩:=h.focus hk;refine⟨hl,ha.imp id ?_⟩;rintro⟨r,sp,m8,qV,zy,hp⟩;exact⟨r,sp,m8,qV,zy,St.nJ (A:=own b n c e xs) ⟨hb,g,⟨h1,h2,hd,hu,hp,hs⟩,hv⟩ hk⟩
def fZ{α:Type}{L:List α}{k:Nat}{A B:α}(hk:L[k]?=some A):(L.set k B)[k]?=some B:=by
 have:=(adZ.1 hk).1;simp[this]
def St.xW{r:Nat}{sp:LV}(hk:k<L.length)(hl:xs.length=n* e)(qV:n<=c)(zy:sp.length=(c-n)* e)(h:St W w (L.set k (pt r (xs++sp)))):
 St W w (L.set k (own (some ⟨r,0,none⟩) n c e xs)):=by
 have hg:(L.set k (pt r (xs++sp)))[k]?=some (pt r (xs++sp)):=by simp[hk]
 have h2:=(h.focus hg).mono (B:=own (some ⟨r,0,none⟩) n c e xs) λg hp=>⟨hl,.inr ⟨r,sp,rfl,qV,zy,hp⟩⟩;have:=h2.nJ hg;rwa[afb] at this
def St.Da{r:Nat}(h:St W w L)(hk:L[k]?=some (own (some ⟨r,0,none⟩) n c e xs))(o:Nat)(ho:o<xs.length):
 w.cell? ⟨r,o,none⟩=xs[o]?/\w.frozen? ⟨r,o,none⟩=false:=by
 obtain⟨hl,h0|⟨r',sp,hb,qV,zy,hs⟩⟩:=h.lQ hk
 ·cases h0.1
 ·cases hb
  obtain⟨h1,h2,_⟩:=hs.cell (o:=o) (fZ hk);exact⟨by rw[h1,ael ho],h2 (by simp;omega)⟩
def nS{i:Int}{K:Addr->WK}(h:St W w L)(hk:L[k]?=some (own b n c e xs))(hi:0<=i/\i<n)
 (hK:∀r,b=some ⟨r,0,none⟩->K ⟨r,i.toNat* e,none⟩ w):fP b n i e K w:=by
 obtain⟨hl,h0|⟨r,sp,hb,qV,zy,hs⟩⟩:=h.lQ hk
 ·omega
 ·refine⟨_,hb,hi,?_⟩;rw[dZ,ad1];exact hK r hb
def vJ{r o:Nat}{v:Value}{K:VK}(h:St W w L)(hk:L[k]?=some (own (some ⟨r,0,none⟩) n c e xs))(hv:xs[o]?=some v)(hK:K v w):ld ⟨r,o,none⟩ K w:=
 ⟨v,by rw[(h.Da hk o (adZ.1 hv).1).1,hv],hK⟩
def yC{r o:Nat}{ys:LV}(h:St W w L)(hk:L[k]?=some (own (some ⟨r,0,none⟩) n c e xs))(hx:∀j v,ys[j]?=some v->xs[o+j]?=some v):tB w ⟨r,o,none⟩ ys:=λj v hj=>by
 have:=hx j v hj;rw[dZ,(h.Da hk _ (adZ.1 this).1).1,this]
def z7{r o m:Nat}{ys:LV}{K:LV->WK}(h:St W w L)(hk:L[k]?=some (own (some ⟨r,0,none⟩) n c e xs))(hl:ys.length=m)(hx:∀j v,ys[j]?=some v->xs[o+j]?=some v)(hK:K ys w):ai ⟨r,o,none⟩ m K w:=
 ⟨ys,hl,yC h hk hx,hK⟩
def Qe{r o:Nat}{ys:LV}{K:WK}(h:St W w L)(hk:L[k]?=some (own (some ⟨r,0,none⟩) n c e xs))(ho:o+ys.length<=xs.length)(h1:∀v∈ys,v.oneCell'=true)
 (hK:∀w',St W w' (L.set k (own (some ⟨r,0,none⟩) n c e (over xs o ys)))->K w'):gp ⟨r,o,none⟩ ys K w:=by
 obtain⟨hl,h0|⟨r',sp,hb,qV,zy,hs⟩⟩:=h.lQ hk
 ·cases h0.1
 ·cases hb
  refine fX hs (fZ hk) (by simp;omega) h1 λw' Mn=>hK w' ?_;rw[afb] at Mn;have e1:over (xs++sp) o ys=over xs o ys++sp:=by
   unfold over;rw[List.take_append_of_le_length (by omega),List.drop_append_of_le_length (by omega)];simp
  rw[e1] at Mn;exact St.xW ((adZ.1 hk).1) (by rw[F9 ho];exact hl) qV zy Mn
def xJ{r o:Nat}{v:Value}{K:WK}(h:St W w L)(hk:L[k]?=some (own (some ⟨r,0,none⟩) n c e xs))(ho:o<xs.length)(h1:v.oneCell'=true)
 (hK:∀w',St W w' (L.set k (own (some ⟨r,0,none⟩) n c e (xs.set o v)))->K w'):st ⟨r,o,none⟩ v K w:=by
 obtain⟨hl,h0|⟨r',sp,hb,qV,zy,hs⟩⟩:=h.lQ hk
 ·cases h0.1
 ·cases hb
  refine kP hs (fZ hk) (by simp;omega) h1 λw' Mn=>hK w' ?_;rw[afb,List.set_append_left _ _ ho] at Mn;exact St.xW ((adZ.1 hk).1) (by simpa using hl) qV zy Mn
def B0{r o m:Nat}{cs ys:LV}{k':Nat}(h:St W w L)(hk:L[k']?=some (pt r cs))(hl:ys.length=m* e)(hx:∀j v,ys[j]?=some v->cs[o+j]?=some v):Src w m e (some ⟨r,o,none⟩) ys:=
 ⟨hl,λa ha=>by cases ha;exact so h hk hx⟩
def Kr{m c':Nat}{ys:LV}{b':OA}{k':Nat}(h:St W w L)(hk:L[k']?=some (own b' m c' e ys)):Src w m e b' ys/\(b'=none->m=0):=by
 obtain⟨hl,h0|⟨r',sp,hb,qV,zy,hs⟩⟩:=h.lQ hk
 ·obtain⟨rfl,rfl,rfl⟩:=h0;exact⟨⟨hl,λa ha=>by cases ha⟩,λ_=>rfl⟩
 ·subst hb;refine⟨⟨hl,λa ha=>?_⟩,λhn=>by cases hn⟩;cases ha
  exact so hs (fZ hk) λj v hj=>by
   rw[ad1,ael (adZ.1 hj).1];exact hj
def ky(z:LV)(m:Nat):(Builtin.zeroCells ⟨z⟩ m).toList.length=m* z.length:=by
 simp[Builtin.zeroCells]
def Ig(c n m e:Nat):(c-n)* e-m* e=(c-(n+m))* e:=by
 rw[<-Nat.sub_mul];congr 1;omega
def Hg{bytes m:Nat}{zero ys:LV}{K:OA->Nat->Nat->WK}(h:St W w L)(hk:L[k]?=some (own b n c e xs))(hy:ys.length=m* e)(hz:zero.length=e)
 (hbound:(n+m)* bytes<=140737488355328)(Q7:n+m<=9223372036854775807)(h1:∀v∈ys,v.oneCell'=true)
 (hK:∀b' c' w',St W w' (L.set k (own b' (n+m) c' e (xs++ys)))->K b' (n+m) c' w'):RY e bytes zero b n c m ys K w:=by
 have UM:=(adZ.1 hk).1;obtain⟨hl,h0⟩:=h.lQ hk;refine⟨λhle=>⟨λa ha=>?_,λhb=>?_⟩,λaZ=>⟨hbound,by omega,xs,?_,?_,λc' t GK=>?_⟩⟩
 ·rcases h0 with h0|⟨r,sp,hb,qV,zy,hs⟩
  ·rw[h0.1] at ha;cases ha
  ·subst hb;cases ha
   rw[dZ,ad1];have yX:n* e+0+ys.length<=(xs++sp).length:=by
    rw[ad0,hl,zy,hy,aeT,<-afl,<-afl];exact aeL e (by omega)
   obtain⟨hc,fo⟩:=St.vA ys (n* e) 0 hs (fZ hk) yX h1;refine⟨hc,hK _ _ _ ?_⟩;rw[afb,aeT] at fo;have e1:over (xs++sp) (n* e) ys=(xs++ys)++sp.drop ys.length:=by
    unfold over;rw[<-hl,List.take_left' rfl,List.drop_append,aeF (by omega)];simp
   rw[e1] at fo;refine St.xW UM (by rw[ad0,hl,hy,afl]) hle ?_ fo;rw[ad9,zy,hy];exact Ig c n m e
 ·rcases h0 with h0|⟨r,sp,m8,qV,zy,hs⟩
  ·obtain⟨rfl,rfl,rfl⟩:=h0;have hm:m=0:=by omega
   subst hm;have hye:ys=[]:=List.eq_nil_of_length_eq_zero (by simpa using hy);have hxe:xs=[]:=List.eq_nil_of_length_eq_zero (by simpa using hl);subst hye hxe;refine hK _ _ _ ?_;rw[aei,jQ hk];exact h
  ·rw[m8] at hb;cases hb
 ·rcases h0 with h0|⟨r,sp,hb,qV,zy,hs⟩
  ·obtain⟨rfl,rfl,rfl⟩:=h0;exact⟨hl,λa ha=>by cases ha⟩
  ·subst hb;refine⟨hl,λa ha=>?_⟩;cases ha
   exact so hs (fZ hk) λj v hj=>by
    rw[ad1,ael (adZ.1 hj).1];exact hj
 ·intro hb;rcases h0 with h0|⟨r,sp,m8,_⟩
  ·exact h0.2.1
  ·rw[m8] at hb;cases hb
 ·refine hK _ _ _ ?_;have Q6:=(h.focus hk).drop.drew.new ((xs++ys)++(Builtin.zeroCells ⟨zero⟩ (c'-(n+m))).toList) t;rw[World.size_drew] at Q6;have abg:((xs++ys).toArray++Builtin.zeroCells ⟨zero⟩ (c'-(n+m)):Array Value)=⟨(xs++ys)++(Builtin.zeroCells ⟨zero⟩ (c'-(n+m))).toList⟩:=by
   apply afz;simp
  rw[abg];refine St.nJ (A:=own b n c e xs) ?_ hk;exact Q6.mono λg hp=>⟨by rw[ad0,hl,hy,afl],.inr ⟨_,_,rfl,GK,by rw[ky,hz],hp⟩⟩
def qj{bytes m:Nat}{zero ys:LV}{b':OA}{K:OA->Nat->Nat->WK}(h:St W w L)(hk:L[k]?=some (own b n c e xs))(vK:Src w m e b' ys)(m8:b'=none->m=0)(hz:zero.length=e)
 (hbound:(n+m)* bytes<=140737488355328)(Q7:n+m<=9223372036854775807)(h1:∀v∈ys,v.oneCell'=true)
 (hK:∀b' c' w',St W w' (L.set k (own b' (n+m) c' e (xs++ys)))->K b' (n+m) c' w'):eW e bytes zero b n c b' m K w:=
 ⟨ys,vK,m8,Hg h hk vK.1 hz hbound Q7 h1 hK⟩
def D6(s:BA):∀v∈strCells s,v.oneCell'=true:=by
 intro v hv;simp only[strCells,aeI] at hv;obtain⟨x,_,rfl⟩:=hv
 rfl
def strCells_length(s:BA):(strCells s).length=s.size:=by simp[strCells]
def BW{s:BA}{K:OA->Nat->Nat->WK}{xs:LV}(h:St W w L)(hk:L[k]?=some (own b n c 1 xs))(hbound:n+s.size<=140737488355328)
 (hK:∀b' c' w',St W w' (L.set k (own b' (n+s.size) c' 1 (xs++strCells s)))->K b' (n+s.size) c' w'):BX b n c s K w:=
 Hg h hk (by rw[strCells_length];omega) rfl (by omega) (by omega) (D6 s) hK
def NR{bytes:Nat}{zero:LV}{len cap:Int}{K:OA->Nat->Nat->WK}(h:St W w L)(h0:0<=len/\len<=cap/\cap<=9223372036854775807/\cap* bytes<=281474976710656)
 (hK:∀r w',St W w' (own (some ⟨r,0,none⟩) len.toNat cap.toNat zero.length (Builtin.zeroCells ⟨zero⟩ len.toNat).toList::L)->K (some ⟨r,0,none⟩) len.toNat cap.toNat w'):Gh bytes zero len cap K w:=by
 refine⟨h0,λt=>hK _ _ ?_⟩;have Q6:=h.new (Builtin.zeroCells ⟨zero⟩ cap.toNat).toList t;refine St.mono Q6 λg hp=>⟨ky _ _,.inr ⟨_,(Builtin.zeroCells ⟨zero⟩ (cap.toNat-len.toNat)).toList,rfl,by omega,ky _ _,?_⟩⟩;have qw:(Builtin.zeroCells ⟨zero⟩ cap.toNat).toList=(Builtin.zeroCells ⟨zero⟩ len.toNat).toList++(Builtin.zeroCells ⟨zero⟩ (cap.toNat-len.toNat)).toList:=by
  have key:∀p q,(Builtin.zeroCells ⟨zero⟩ (p+q)).toList=(Builtin.zeroCells ⟨zero⟩ p).toList++(Builtin.zeroCells ⟨zero⟩ q).toList:=by
   intro p q;simp only[Builtin.zeroCells,Array.toList_map,Array.toList_range];rw[afl,List.range_add,aeu,afx]
   congr 1
   apply ae6;intro j _;simp only[Function.comp]
   congr 1
   rw[Nat.add_comm,Nat.add_mul_mod_self_right]
  rw[<-key];congr 2;omega
 rw[<-qw];exact hp
end
end Go.Sep
namespace Go.bA
open Go.Den
def jI(n:Nat):BA:=⟨(aec n 0).toArray⟩
def qm(n:Nat):(jI n).size=n:=by simp[jI,ByteArray.size]
structure aw where
 safe:List BA
 later:List (Int×BA)
 ops:Int
 arm:Int
namespace aw
def new(n:Int):aw:=⟨aec (min2 (max2 n 0) 4096).toNat (jI 128),[],0,0⟩
def is(D:aw)(i:Int):Prop:=0<=i/\i<D.safe.length
instance(D:aw)(i:Int):Decidable (D.is i):=by unfold is;infer_instance
def tick(D:aw):aw:={D with ops:=adU.wrap (D.ops+1),arm:=if D.arm=0 then 0 else adU.wrap (D.arm-1)}
def qY(D:aw):Bool:= !(D.arm==0)&&(adU.wrap (D.arm-1)==0)
def last(l:List (Int×BA))(i:Int):Option BA:=(l.reverse.find? λp=>p.1==i).map (·.2)
def now(D:aw)(i:Int):BA:=(last D.later i).getD (D.safe.getD i.toNat .empty)
def read(D:aw)(i:Int):BA×Int:=if D.is i then(D.now i,0) else(.empty,1)
def pad(s:BA):BA:=s++jI (128-s.size)
def write(D:aw)(i:Int)(s:BA):aw×Int:=
 if ¬D.is i\/128<s.size then(D,1) else if D.qY then(D.tick,8) else({D.tick with later:=D.later++[(i,pad s)]},0)
def put(safe:List BA)(p:Int×BA):List BA:=safe.set p.1.toNat p.2
def sync(D:aw):aw×Int:=if D.qY then(D.tick,8) else({D.tick with safe:=D.later.foldl put D.safe,later:=[]},0)
def bit(mask:Int)(k:Int):Bool:=bC .u64 .and (shr .u64 mask (min2 k 63)) 1==1
def jW(mask torn c:Int)(safe:List BA)(k:Nat)(p:Int×BA):List BA:=
 if(k:Int)=torn then safe.set p.1.toNat (p.2.extract 0 c.toNat++(safe.getD p.1.toNat .empty).extract c.toNat (safe.getD p.1.toNat .empty).size)
 else if bit mask k then safe.set p.1.toNat p.2 else safe
def sg(mask torn c:Int):Nat->List (Int×BA)->List BA->List BA
 |_,[],safe=>safe
 |k,p::r,safe=>sg mask torn c (k+1) r (jW mask torn c safe k p)
def db(D:aw)(mask torn cut:Int):aw:=
 {D with safe:=sg mask torn (min2 (max2 cut 0) 128) 0 D.later D.safe,later:=[],arm:=0}
def tA(D:aw)(n:Int):aw:={D with arm:=max2 n 0}
structure Ok(D:aw):Prop where
 safe:∀s∈D.safe,s.size=128
 later:∀p∈D.later,p.2.size=128/\0<=p.1/\p.1<D.safe.length
 lu:D.safe.length<=4096
 less:D.later.length<1099511627776
end aw
end Go.bA
namespace Go.Prog
open Go.Den Go.RowKit
def AP(l:List UInt8):Nat->List UInt8
 |0=>[]
 |n+1=>l++AP l n
def strings_Repeat(s:BA)(n:Int)(K:VK):WK:=λw=>
 (0<=n/\s.size* n.toNat<=140737488355328/\n<=9223372036854775807)/\∀w',Below w.heap.size w w'->K (.string ⟨(AP s.data.toList n.toNat).toArray⟩) w'
def strings_Repeat.u:WP:=λargs K=>match args with|[.string s,.int .i64 n]=>strings_Repeat s n K|_=>no
end Go.Prog
namespace Go.Prog
open Go.Den
abbrev LI:=List Value->World->Prop
abbrev LM:=List Value->World->Nat
abbrev lp(a:LV)(B:LI->LM->Prop):WK:=λw=>∃I μ,I a w/\B I μ
abbrev ct(I:LI)(μ:LM)(b a:LV)(w:World):WK:=λv=>I b v/\μ b v<μ a w
abbrev aH(n:Nat)(a:Addr)(cs:LV)(X:WK):WK:=a8 (cs.length=n) (gp a cs X)
abbrev Fh(n:Nat)(cs:LV)(F:Nat->WK):WK:=a8 (cs.length=n/\True) (mk (cs++[]) F)
abbrev lI(a:Addr)(K:Int->WK):WK:=ld a (xI .i64 K)
abbrev lU(a:Addr)(K:Int->WK):WK:=ld a (xI .u64 K)
abbrev lB(a:Addr)(K:Int->WK):WK:=ld a (xI .u8 K)
abbrev lP(a:Addr)(K:OA->WK):WK:=ld a (xP K)
abbrev lL(a:Addr)(K:OA->Nat->Nat->WK):WK:=ld a (xL K)
abbrev lT(a:Addr)(K:Bool->WK):WK:=ld a (xB K)
abbrev lS(a:Addr)(K:ByteArray->WK):WK:=ld a (xS K)
abbrev aaa:LV:=[.int .u8 0,.int .u8 0,.int .u8 0,.int .u8 0,.int .u8 0,.int .u8 0,.int .u8 0,.int .u8 0,.int .u8 0,.int .u8 0,.int .u8 0,.int .u8 0,.int .u8 0,.int .u8 0,.int .u8 0,.int .u8 0]
abbrev I':LV:=[.bool false,.int .u64 0,.int .u64 0,.int .u64 0,.int .u64 0,.int .u64 0,.int .u64 0,.int .u64 0,.int .u64 0,.int .u64 0,.int .u64 0,.int .i64 0,.int .i64 0,.int .i64 0,.int .i64 0]
abbrev wh:LV:=[.bool false,.int .u64 0,.int .u64 0,.int .u64 0,.int .u64 0,.int .u64 0,.int .u64 0,.int .u64 0,.int .u64 0,.int .u64 0,.int .u64 0,.int .i64 0,.int .i64 0,.int .i64 0,.int .i64 0,.int .u64 0,.int .u64 0,.int .u64 0,.int .u64 0,.int .u64 0,.int .u64 0,.int .u64 0,.int .u64 0,.int .u64 0,.int .u64 0,.int .i64 0,.int .i64 0,.int .i64 0,.int .i64 0,.int .i64 0,.int .i64 0]
abbrev jH:LV:=[.int .i64 0,.int .i64 0,.slice none 0 0,.slice none 0 0,.int .i64 0,.slice none 0 0,.int .u64 0,.int .u64 0,.int .i64 0,.int .i64 0,.bool false,.bool false,.bool false,.int .i64 0,.int .u64 0,.int .i64 0,.int .i64 0,.int .i64 0]
abbrev tI:LV:=[.int .i64 0,.int .i64 0,.int .u64 0,.int .u64 0]
abbrev zi4:LV:=[.int .i64 0,.int .i64 0,.int .i64 0,.int .i64 0]
abbrev zi5:LV:=[.int .i64 0,.int .i64 0,.int .i64 0,.int .i64 0,.int .i64 0]
abbrev lM:LV:=[.int .i64 0,.slice none 0 0,.slice none 0 0,.int .i64 0,.slice none 0 0,.int .u64 0,.int .u64 0,.int .i64 0,.int .i64 0,.bool false,.bool false,.bool false,.int .i64 0]
abbrev Fj:LV:=[.int .i64 0,.slice none 0 0,.slice none 0 0,.slice none 0 0]
abbrev I9:LV:=[.slice none 0 0,.slice none 0 0,.int .i64 0,.int .i64 0]
abbrev cK:LV:=[.int .u64 0,.int .u64 0,.int .u64 0,.int .u64 0,.int .u64 0,.int .u64 0,.int .u64 0,.int .u64 0,.int .u64 0,.int .u64 0,.int .i64 0,.int .i64 0,.int .i64 0,.int .i64 0]
abbrev kN:LV:=[.int .u64 0,.int .u64 0,.int .u64 0,.int .u64 0,.int .u64 0,.int .u64 0,.int .u64 0,.int .u64 0,.int .u64 0,.int .u64 0,.int .i64 0,.int .i64 0,.int .i64 0,.int .i64 0,.int .u64 0,.int .u64 0,.int .u64 0,.int .u64 0,.int .u64 0,.int .u64 0,.int .u64 0,.int .u64 0,.int .u64 0,.int .u64 0,.int .i64 0,.int .i64 0,.int .i64 0,.int .i64 0]
abbrev fj:LV:=[.int .u64 0,.int .u64 0,.int .u64 0,.int .u64 0,.int .u64 0,.int .u64 0,.int .u64 0,.int .u64 0,.int .u64 0,.int .u64 0,.int .i64 0,.int .i64 0,.int .i64 0,.int .i64 0,.int .i64 0,.int .i64 0]
abbrev bg:LV:=[.int .u64 0,.int .u64 0,.int .u64 0,.int .u64 0,.int .u64 0,.int .u64 0,.int .u64 0,.int .u64 0,.int .u64 0,.int .u64 0,.int .i64 0,.int .i64 0,.int .i64 0,.int .i64 0,.int .i64 0,.int .i64 0,.int .u64 0,.int .u64 0,.int .u64 0,.int .u64 0,.int .u64 0,.int .u64 0,.int .u64 0,.int .u64 0,.int .u64 0,.int .u64 0,.int .i64 0,.int .i64 0,.int .i64 0,.int .i64 0,.int .i64 0,.int .i64 0,.int .i64 0]
abbrev Fi:LV:=[.int .u64 0,.int .u64 0,.int .i64 0,.int .i64 0,.bool false,.bool false,.bool false,.int .i64 0]
abbrev I8:LV:=[.int .u64 0,.int .u64 0,.int .i64 0,.int .u8 0]
def mS(K:VK):WK:=strings_Repeat (⟨#[0]⟩:BA) 128 (xS λa=>K (.string a))
def jS(n:Int)(K:VK):WK:=a8 True (mk [.l none 0 0,.l none 0 0,.i 0,.i 0] λo=>(λq=>∃(e:LV->World->Prop)(k:LV->World->Nat),e [.p none,.p (some (⟨o,0,none⟩:Addr)),.i (min2 (max2 n 0) 4096),.i 0] q/\∀(d:OA)(a:Addr)(b:Int)(c:Int)(f:World),e [.p d,.p (some a),.i b,.i c] f->(br (decide (c<b)) (tick (ld (a.add 0) (xL λg h j=>mS (xS λr=>kp (a.add 0) [.l g h j] (a8 (1=1/\True) (mk [.string r] λs=>kp (a.add 0) [.l g h j] (eW 1 16 [.string .empty] g h j (some ⟨s,0,none⟩) 1 λt u v=>st (a.add 0) (.l t u v) ((λm=>e [.p d,.p (some a),.i b,.i (adU.wrap (c+1))] m/\k [.p d,.p (some a),.i b,.i (adU.wrap (c+1))] m<k [.p d,.p (some a),.i b,.i c] f))))))))) (K (.p (some a)))) f))
def lC(a:OA)(b:Int)(K:VK):WK:=br (!(a.isNone)) (br (decide (b>=0)) (nn a λc=>ld (c.add 0) (xL λe d f=>K (.bool (decide (b<(d:Int)))))) (K (.bool false))) (K (.bool false))
def jj(a:OA)(K:VK):WK:=nn a λb=>ld (b.add 2) (xI .i64 λc=>nn a λd=>st (d.add 2) (.i (adU.wrap (c+1))) (nn a λe=>ld (e.add 3) (xI .i64 λf=>br (f==0) (K (.bool false)) (nn a λg=>ld (g.add 3) (xI .i64 λh=>nn a λj=>st (j.add 3) (.i (adU.wrap (h-1))) (nn a λk=>ld (k.add 3) (xI .i64 λl=>K (.bool (l==0)))))))))
def cG.j1(K:VK)(a:OA)(b:BA)(h:Int)(j:Bool):WK:=br j (K (.i 1)) (jj a (xB λk=>br k (K (.i 8)) (tick (nn a λc=>ld (c.add 1) (xL λd e f=>mS (xS λm=>kp (c.add 1) [.l d e f] (iX m (some (b.size:Int)) none λg=>a8 (((b.size+g.size:Nat):Int)<=9223372036854775807) (a8 (1=1/\(1=1/\True)) (a8 (2=2/\True) (mk [.i h,.string (b++g)] λn=>kp (c.add 1) [.l d e f] (eW 2 24 [.i 0,.string .empty] d e f (some ⟨n,0,none⟩) 1 λo p q=>nn a λr=>st (r.add 1) (.l o p q) (K (.i 0)))))))))))))
def cG(a:OA)(b:Int)(c:BA)(K:VK):WK:=br (a.isNone) (K (.i 2)) (lC a b (xB λd=>br (!d) (cG.j1 K a c b true) (cG.j1 K a c b (decide ((c.size:Int)>128)))))
def ga(b:OA)(e:Int)(K:VK):WK:=br (b.isNone) (K (.tuple ⟨[.string .empty,.i 2]⟩)) (lC b e (xB λk=>br (!k) (K (.tuple ⟨[.string .empty,.i 1]⟩)) (nn b λl=>ld (l.add 1) (xL λD m E=>(λn=>∃(f:LV->World->Prop)(h:LV->World->Nat),f [.string .empty,.i 0,.i (adU.wrap ((m:Int) -1))] n/\∀(c:BA)(d:Int)(a:Int)(g:World),f [.string c,.i d,.i a] g->(br (decide (a>=0)) (nn b λo=>ld (o.add 1) (xL λp q F=>fP p q a 2 λr=>ld (r.add 0) (xI .i64 λs=>br (s==e) (nn b λt=>ld (t.add 1) (xL λu v G=>fP u v a 2 λw=>ld (w.add 1) (xS λx=>K (.tuple ⟨[.string x,.i 0]⟩)))) ((λj=>f [.string c,.i d,.i (adU.wrap (a-1))] j/\h [.string c,.i d,.i (adU.wrap (a-1))] j<h [.string c,.i d,.i a] g))))) (nn b λy=>ld (y.add 0) (xL λz A H=>fP z A e 1 λB=>ld B (xS λC=>K (.tuple ⟨[.string C,.i 0]⟩))))) g)))))
def jk(g:OA)(u v w:Int)(K:VK):WK:=br (g.isNone) (K (.tuple ⟨[]⟩)) (nn g λx=>ld (x.add 1) (xL λy n z=>(λA=>∃(k:LV->World->Prop)(h:LV->World->Nat),k [.i (min2 (max2 w 0) 128),.l y n z,.i (n:Int),.i 0] A/\∀(b:Int)(c:OA)(d:Nat)(f:Nat)(e:Int)(a:Int)(m:World),k [.i b,.l c d f,.i e,.i a] m->(br (decide (a<e)) (fP c d a 2 λB=>ai B 2 λo=>mk [.i 0,.string .empty] λj=>a8 (o.length=2) (gp (⟨j,0,none⟩:Addr) o (br (a==v) (tick (nn g λC=>ld (C.add 0) (xL λD E rr=>ld ((⟨j,0,none⟩:Addr).add 0) (xI .i64 λF=>ld ((⟨j,0,none⟩:Addr).add 1) (xS λG=>iX G none (some b) λp=>nn g λH=>ld (H.add 0) (xL λI J yK=>ld ((⟨j,0,none⟩:Addr).add 0) (xI .i64 λM=>fP I J M 1 λO=>ld O (xS λP=>iX P (some b) none λq=>a8 (((p.size+q.size:Nat):Int)<=9223372036854775807) (fP D E F 1 λQ=>st Q (.string (p++q)) ((λr=>k [.i b,.l c d f,.i e,.i (adU.wrap (a+1))] r/\h [.i b,.l c d f,.i e,.i (adU.wrap (a+1))] r<h [.i b,.l c d f,.i e,.i a] m))))))))))) (a8 ((0:Int)<=(min2 a 63)) (br ((bC .u64 .and (shr .u64 u (min2 a 63)) 1)==1) (tick (nn g λR=>ld (R.add 0) (xL λS T ZH=>ld ((⟨j,0,none⟩:Addr).add 0) (xI .i64 λV=>ld ((⟨j,0,none⟩:Addr).add 1) (xS λW=>fP S T V 1 λX=>st X (.string W) ((λs=>k [.i b,.l c d f,.i e,.i (adU.wrap (a+1))] s/\h [.i b,.l c d f,.i e,.i (adU.wrap (a+1))] s<h [.i b,.l c d f,.i e,.i a] m))))))) ((λt=>k [.i b,.l c d f,.i e,.i (adU.wrap (a+1))] t/\h [.i b,.l c d f,.i e,.i (adU.wrap (a+1))] t<h [.i b,.l c d f,.i e,.i a] m))))))) (nn g λY=>st (Y.add 1) (.l none 0 0) (nn g λZ=>st (Z.add 3) (.i 0) (K (.tuple ⟨[]⟩))))) m)))
def dw(a:OA)(K:VK):WK:=br (a.isNone) (K (.i 0)) (nn a λb=>ld (b.add 0) (xL λd c e=>K (.i (c:Int))))
def il(b:OA)(K:VK):WK:=br (b.isNone) (K (.i 2)) (jj b (xB λq=>br q (K (.i 8)) (nn b λr=>ld (r.add 1) (xL λs m t=>(λu=>∃(h:LV->World->Prop)(n:LV->World->Nat),h [.i 0,.l s m t,.i (m:Int),.i 0] u/\∀(f:Int)(c:OA)(d:Nat)(g:Nat)(e:Int)(a:Int)(j:World),h [.i f,.l c d g,.i e,.i a] j->(br (decide (a<e)) (fP c d a 2 λv=>ai v 2 λo=>mk [.i 0,.string .empty] λk=>a8 (o.length=2) (gp (⟨k,0,none⟩:Addr) o (tick (nn b λw=>ld (w.add 0) (xL λx y D=>ld ((⟨k,0,none⟩:Addr).add 0) (xI .i64 λz=>ld ((⟨k,0,none⟩:Addr).add 1) (xS λA=>fP x y z 1 λB=>st B (.string A) ((λp=>h [.i f,.l c d g,.i e,.i (adU.wrap (a+1))] p/\n [.i f,.l c d g,.i e,.i (adU.wrap (a+1))] p<n [.i f,.l c d g,.i e,.i a] j))))))))) (nn b λC=>st (C.add 1) (.l none 0 0) (K (.i 0)))) j)))))
def jd(a:OA)(b:Int)(K:VK):WK:=br (!(a.isNone)) (nn a λc=>st (c.add 3) (.i (max2 b 0)) (K (.tuple ⟨[]⟩))) (K (.tuple ⟨[]⟩))
def oG(a:OA)(K:VK):WK:=br (a.isNone) (K (.i 0)) (nn a λb=>ld (b.add 2) (xI .i64 λc=>K (.i c)))
def iW(a:Int)(K:VK):WK:=a8 ((104:Int)≠0) (a8 ((104:Int)≠0) (K (.i (max2 (adU.wrap ((adU.wrap ((max2 a 0).tdiv (104:Int)))+(min2 ((max2 a 0).tmod (104:Int)) 1))) 1))))
def qp(b:LV)(K:VK):WK:=mk b λa=>ld ((⟨a,0,none⟩:Addr).add 0) (xI .i64 λc=>br (decide (c>=1)) (ld ((⟨a,0,none⟩:Addr).add 0) (xI .i64 λd=>br (decide (d<=1152921504606846976)) (ld ((⟨a,0,none⟩:Addr).add 1) (xI .i64 λe=>br (decide (e>=0)) (ld ((⟨a,0,none⟩:Addr).add 1) (xI .i64 λf=>br (decide (f<4096)) (ld ((⟨a,0,none⟩:Addr).add 2) (xS λg=>K (.bool (decide ((g.size:Int)<=104))))) (K (.bool false)))) (K (.bool false)))) (K (.bool false)))) (K (.bool false)))
def aC(e:OA)(n o:Int)(K:VK):WK:=(λp=>∃(c:LV->World->Prop)(f:LV->World->Nat),c [.i (min2 (max2 n 1) 8),.i 0] p/\∀(b:Int)(a:Int)(d:World),c [.i b,.i a] d->(br (decide (a<b)) (tick (nn e λg=>ld (g.add 0) (xL λh j k=>a8 ((0:Int)<=(adU.wrap (8* a))) (a8 (1=1/\True) (mk [.int .u8 (IntKind.u8.wrap (shr .i64 o (adU.wrap (8* a))))] λq=>kp (g.add 0) [.l h j k] (eW 1 1 [.int .u8 0] h j k (some ⟨q,0,none⟩) 1 λr s t=>nn e λu=>st (u.add 0) (.l r s t) ((λm=>c [.i b,.i (adU.wrap (a+1))] m/\f [.i b,.i (adU.wrap (a+1))] m<f [.i b,.i a] d)))))))) (K (.tuple ⟨[]⟩))) d)
def iz(a:OA)(b:BA)(K:VK):WK:=nn a λc=>ld (c.add 0) (xL λd e f=>BX d e f b λg h i=>nn a λj=>st (j.add 0) (.l g h i) (K (.tuple ⟨[]⟩)))
def nZ(a:Int)(K:VK):WK:=a8 ((0:Int)<=8) (a8 ((0:Int)<=16) (a8 ((0:Int)<=24) (a8 (1=1/\(1=1/\(1=1/\(1=1/\True)))) (mk [.int .u8 (IntKind.u8.wrap a),.int .u8 (IntKind.u8.wrap (shr .u32 a 8)),.int .u8 (IntKind.u8.wrap (shr .u32 a 16)),.int .u8 (IntKind.u8.wrap (shr .u32 a 24))] λb=>RV (some ⟨b,0,none⟩) 4 λc=>K (.string c)))))
def qC(D:Int)(t:BA)(K:VK):WK:=(λE=>∃(u:LV->World->Prop)(z:LV->World->Nat),u [.int .u32 0,.int .u32 (bC .u32 .xor 4294967295 D),.i (t.size:Int),.i 0] E/\∀(v:Int)(c:Int)(g:Int)(a:Int)(w:World),u [.int .u32 v,.int .u32 c,.i g,.i a] w->(br (decide (a<g)) (vc t a λj=>(λF=>∃(x:LV->World->Prop)(A:LV->World->Nat),x [.int .u32 v,.int .u32 (bC .u32 .xor c (IntKind.u32.wrap (j.toNat:Int))),.i a,.i g,.i a,.bool (decide (a<g)),.i a,.int .u32 c,.string t,.i a,.int .u8 (j.toNat:Int),.int .u32 (IntKind.u32.wrap (j.toNat:Int)),.int .u32 (bC .u32 .xor c (IntKind.u32.wrap (j.toNat:Int))),.i 0] F/\∀(d:Int)(b:Int)(k:Int)(e:Int)(f:Int)(l:Bool)(m:Int)(n:Int)(o:BA)(p:Int)(q:Int)(r:Int)(s:Int)(h:Int)(y:World),x [.int .u32 d,.int .u32 b,.i k,.i e,.i f,.bool l,.i m,.int .u32 n,.string o,.i p,.int .u8 q,.int .u32 r,.int .u32 s,.i h] y->(br (decide (h<8)) (a8 ((0:Int)<=1) ((λB=>x [.int .u32 d,.int .u32 (bC .u32 .xor (shr .u32 b 1) (bC .u32 .and 2197175160 (IntKind.u32.wrap (0-(bC .u32 .and b 1))))),.i k,.i e,.i f,.bool l,.i m,.int .u32 n,.string o,.i p,.int .u8 q,.int .u32 r,.int .u32 s,.i (adU.wrap (h+1))] B/\A [.int .u32 d,.int .u32 (bC .u32 .xor (shr .u32 b 1) (bC .u32 .and 2197175160 (IntKind.u32.wrap (0-(bC .u32 .and b 1))))),.i k,.i e,.i f,.bool l,.i m,.int .u32 n,.string o,.i p,.int .u8 q,.int .u32 r,.int .u32 s,.i (adU.wrap (h+1))] B<A [.int .u32 d,.int .u32 b,.i k,.i e,.i f,.bool l,.i m,.int .u32 n,.string o,.i p,.int .u8 q,.int .u32 r,.int .u32 s,.i h] y))) ((λC=>u [.int .u32 d,.int .u32 b,.i e,.i (adU.wrap (f+1))] C/\z [.int .u32 d,.int .u32 b,.i e,.i (adU.wrap (f+1))] C<z [.int .u32 v,.int .u32 c,.i g,.i a] w))) y)) (K (.int .u32 (bC .u32 .xor 4294967295 c)))) w)
def bW(a:OA)(K:VK):WK:=nn a λb=>ld (b.add 0) (xL λc d f=>RV c d λe=>K (.string e))
def nB(c:LV)(K:VK):WK:=mk c λb=>ai (⟨b,0,none⟩:Addr) 3 λd=>qp d (xB λe=>br (!e) (K (.tuple ⟨[.string .empty,.i 1]⟩)) (a8 True (mk [.l none 0 0] λa=>ld ((⟨b,0,none⟩:Addr).add 0) (xI .i64 λf=>aC (some (⟨a,0,none⟩:Addr)) 8 f (x0 (ld ((⟨b,0,none⟩:Addr).add 1) (xI .i64 λg=>aC (some (⟨a,0,none⟩:Addr)) 2 g (x0 (ld ((⟨b,0,none⟩:Addr).add 2) (xS λh=>aC (some (⟨a,0,none⟩:Addr)) 2 (h.size:Int) (x0 (ld ((⟨b,0,none⟩:Addr).add 2) (xS λj=>iz (some (⟨a,0,none⟩:Addr)) j (x0 (ld ((⟨b,0,none⟩:Addr).add 2) (xS λk=>strings_Repeat (⟨#[0]⟩:BA) (adU.wrap (104-(k.size:Int))) (xS λm=>iz (some (⟨a,0,none⟩:Addr)) m (x0 (bW (some (⟨a,0,none⟩:Addr)) (xS λn=>qC 0 n (xI .u32 λo=>nZ o (xS λp=>iz (some (⟨a,0,none⟩:Addr)) p (x0 (ld ((⟨b,0,none⟩:Addr).add 0) (xI .i64 λq=>aC (some (⟨a,0,none⟩:Addr)) 8 q (x0 (bW (some (⟨a,0,none⟩:Addr)) (xS λr=>K (.tuple ⟨[.string r,.i 0]⟩)))))))))))))))))))))))))))))
def ij.j1(K:VK)(h:BA)(r g j:Int)(k:OA)(s:Bool):WK:=br s (K (.i 1)) (iW (h.size:Int) (xI .i64 λt=>br (decide (t>(adU.wrap (r-g)))) (K (.i 3)) ((λu=>∃(d:LV->World->Prop)(e:LV->World->Nat),d [.string h,.i 0,.i 0] u/\∀(a:BA)(c:Int)(b:Int)(f:World),d [.string a,.i c,.i b] f->(br (b==0) (iX a none (some (min2 (a.size:Int) 104)) λv=>a8 (1=1/\(1=1/\(1=1/\True))) (nB [.i j,.i b,.string v] (x2 λw x=>(xS λy=>(xI .i64 λD=>cG k (adU.wrap (g+b)) y (xI .i64 λl=>br (l !=0) (K (.i l)) (iX a (some (min2 (a.size:Int) 104)) none λm=>(λn=>d [.string m,.i c,.i (adU.wrap (b+1))] n/\e [.string m,.i c,.i (adU.wrap (b+1))] n<e [.string a,.i c,.i b] f)))) x) w))) (br (decide ((a.size:Int)>0)) (iX a none (some (min2 (a.size:Int) 104)) λz=>a8 (1=1/\(1=1/\(1=1/\True))) (nB [.i j,.i b,.string z] (x2 λA B=>(xS λC=>(xI .i64 λE=>cG k (adU.wrap (g+b)) C (xI .i64 λo=>br (o !=0) (K (.i o)) (iX a (some (min2 (a.size:Int) 104)) none λp=>(λq=>d [.string p,.i c,.i (adU.wrap (b+1))] q/\e [.string p,.i c,.i (adU.wrap (b+1))] q<e [.string a,.i c,.i b] f)))) B) A))) (K (.i 0)))) f))))
def ij(d:OA)(a b c:Int)(e:BA)(K:VK):WK:=br (decide (c<1)) (ij.j1 K e b a c d true) (br (decide (c>1152921504606846976)) (ij.j1 K e b a c d true) (br (decide (a<0)) (ij.j1 K e b a c d true) (dw d (xI .i64 λf=>br (decide (b>f)) (ij.j1 K e b a c d true) (ij.j1 K e b a c d (decide (a>b)))))))
def lO(a:BA)(K:VK):WK:=a8 (1=1/\True) (mk [.string a,.bool false] λb=>K (.p (some (⟨b,0,none⟩:Addr))))
def cF.j1(K:VK)(a:OA)(b:Int):WK:=nn a λc=>ld (c.add 0) (xS λd=>iX d none (some b) λe=>nn a λf=>ld (f.add 0) (xS λg=>iX g (some b) none λh=>nn a λi=>st (i.add 0) (.string h) (K (.string e))))
def cF(a:OA)(b:Int)(K:VK):WK:=br (a.isNone) (K (.string .empty)) (nn a λc=>ld (c.add 1) (xB λd=>br d (nn a λe=>st (e.add 1) (.bool true) (nn a λf=>ld (f.add 1) (xB λg=>br g (K (.string .empty)) (cF.j1 K a b)))) (br (decide (b<0)) (nn a λh=>st (h.add 1) (.bool true) (nn a λi=>ld (i.add 1) (xB λj=>br j (K (.string .empty)) (cF.j1 K a b)))) (nn a λk=>ld (k.add 0) (xS λl=>nn a λm=>st (m.add 1) (.bool (decide (b>(l.size:Int)))) (nn a λn=>ld (n.add 1) (xB λo=>br o (K (.string .empty)) (cF.j1 K a b))))))))
def ao(p:OA)(q:Int)(K:VK):WK:=cF p (min2 (max2 q 1) 8) (xS λh=>ZJ h λr s=>(λt=>∃(j:LV->World->Prop)(m:LV->World->Nat),j [.i 0,.i 0,.l (some ⟨r,0,none⟩) h.size s,.i (h.size:Int),.i 0] t/\∀(f:Int)(b:Int)(c:OA)(d:Nat)(g:Nat)(e:Int)(a:Int)(k:World),j [.i f,.i b,.l c d g,.i e,.i a] k->(br (decide (a<e)) (fP c d a 1 λu=>ld u (xI .u8 λn=>a8 ((0:Int)<=(adU.wrap (8* a))) ((λo=>j [.i f,.i (bC .i64 .or b (shl .i64 (adU.wrap n) (adU.wrap (8* a)))),.l c d g,.i e,.i (adU.wrap (a+1))] o/\m [.i f,.i (bC .i64 .or b (shl .i64 (adU.wrap n) (adU.wrap (8* a)))),.l c d g,.i e,.i (adU.wrap (a+1))] o<m [.i f,.i b,.l c d g,.i e,.i a] k)))) (K (.i b))) k))
def ao.u:WP|[.pointer a,.int .i64 b],K=>ao a b K|_,_=>no
def sA(h:BA)(K:VK):WK:=mk [.i 0,.i 0] λo=>mk [.i 0,.i 0] λq=>tick (iX h none (some 8) λr=>iX h (some (adU.wrap ((h.size:Int) -8))) none λs=>a8 (1=1/\(1=1/\True)) ((λt=>∃(f:LV->World->Prop)(e:LV->World->Nat),f [.p (some (⟨o,0,none⟩:Addr)),.p (some (⟨q,0,none⟩:Addr)),.agg ⟨[.string r,.string s]⟩,.i 0] t/\∀(b:Addr)(c:Addr)(d:LV)(a:Int)(g:World),f [.p (some b),.p (some c),.agg ⟨d⟩,.i a] g->(br (decide (a<2)) (yU d 2 a (xS λu=>lO u (xP λv=>ao v 8 (xI .i64 λj=>br (decide (j>=1)) (br (decide (j<=1152921504606846976)) (a8 ((0:Int)<=a/\a<2) (st (c.add (a.toNat* 1)) (.i j) ((λk=>f [.p (some b),.p (some c),.agg ⟨d⟩,.i (adU.wrap (a+1))] k/\e [.p (some b),.p (some c),.agg ⟨d⟩,.i (adU.wrap (a+1))] k<e [.p (some b),.p (some c),.agg ⟨d⟩,.i a] g)))) ((λl=>f [.p (some b),.p (some c),.agg ⟨d⟩,.i (adU.wrap (a+1))] l/\e [.p (some b),.p (some c),.agg ⟨d⟩,.i (adU.wrap (a+1))] l<e [.p (some b),.p (some c),.agg ⟨d⟩,.i a] g))) ((λm=>f [.p (some b),.p (some c),.agg ⟨d⟩,.i (adU.wrap (a+1))] m/\e [.p (some b),.p (some c),.agg ⟨d⟩,.i (adU.wrap (a+1))] m<e [.p (some b),.p (some c),.agg ⟨d⟩,.i a] g)))))) (ai c 2 λn=>a8 (n.length=2) (gp b n (ai b 2 λw=>K (.agg ⟨w⟩))))) g)))
def kz(h:OA)(K:VK):WK:=dw h (xI .i64 λo=>(λp=>∃(e:LV->World->Prop)(j:LV->World->Nat),e [.i 0,.i 0,.i o,.i 0] p/\∀(d:Int)(b:Int)(c:Int)(a:Int)(f:World),e [.i d,.i b,.i c,.i a] f->(br (decide (a<c)) (ga h a (x2 λq r=>(xS λs=>(xI .i64 λt=>sA s (xA 2 λk=>mk [.i 0,.i 0] λg=>a8 (k.length=2) (gp (⟨g,0,none⟩:Addr) k (a8 ((0:Int)<=0/\(0:Int)<2) (ld ((⟨g,0,none⟩:Addr).add ((0:Int).toNat* 1)) (xI .i64 λl=>a8 ((0:Int)<=1/\(1:Int)<2) (ld ((⟨g,0,none⟩:Addr).add ((1:Int).toNat* 1)) (xI .i64 λm=>(λn=>e [.i d,.i (max2 (max2 b l) m),.i c,.i (adU.wrap (a+1))] n/\j [.i d,.i (max2 (max2 b l) m),.i c,.i (adU.wrap (a+1))] n<j [.i d,.i b,.i c,.i a] f))))))))) r) q)) (K (.i b))) f))
end Go.Prog
namespace Go.Sep
open Go.Den Go.RowKit Go.Prog Go.bA
def gh(l:List (Int×BA)):LV:=l.flatMap λp=>[.i p.1,.string p.2]
def qv(l:List (Int×BA))(i:Nat)(p:Int×BA)(h:l[i]?=some p):
 (gh l)[i* 2]?=some (.i p.1)/\(gh l)[i* 2+1]?=some (.string p.2):=by
 induction l generalizing i with
 |nil=>simp at h
 |cons q l ih=>
  cases i with
  |zero=>simp at h;subst h;exact⟨rfl,rfl⟩
  |succ i=>
   simp only[aed] at h;have:=ih i h;rw[show(i+1)* 2=(i* 2)+2 from by omega,show i* 2+2+1=(i* 2+1)+2 from by omega];exact this
def oP(sb lb:OA)(n sc m lc:Nat)(ops arm:Int):LV:=[.l sb n sc,.l lb m lc,.i ops,.i arm]
def dK(d:Nat)(D:aw):HP:=Te λ(v:(OA×Nat)×(OA×Nat))=>
 sep (pt d (oP v.1.1 v.2.1 D.safe.length v.1.2 D.later.length v.2.2 D.ops D.arm))
  (sep (own v.1.1 D.safe.length v.1.2 1 (D.safe.map .string)) (own v.2.1 D.later.length v.2.2 2 (gh D.later)))
section
variable {W w:World} {L:LH} {k d:Nat} {D:aw}
def oO(h:St W w L)(hk:L[k]?=some (dK d D)):∃sb sc lb lc,
 St W w (pt d (oP sb lb D.safe.length sc D.later.length lc D.ops D.arm)::own sb D.safe.length sc 1 (D.safe.map .string)::own lb D.later.length lc 2 (gh D.later)::L.eraseIdx k):=by
 obtain⟨⟨⟨sb,sc⟩,lb,lc⟩,h1⟩:=(h.focus hk).ex;have h2:=h1.split;have h3:=(h2.perm (aem.swap _ _ _)).split;refine⟨sb,sc,lb,lc,h3.perm ?_⟩;exact(aem.cons _ (aem.swap _ _ _)).trans (aem.swap _ _ _)
def nq{sb lb:OA}{sc lc n m:Nat}{safe:List BA}{later:List (Int×BA)}{ops arm:Int}{A:HP}(hk:L[k]?=some A)(hn:n=safe.length)(hm:m=later.length)
 (h:St W w (pt d (oP sb lb n sc m lc ops arm)::own sb n sc 1 (safe.map .string)::own lb m lc 2 (gh later)::L.eraseIdx k)):St W w (L.set k (dK d ⟨safe,later,ops,arm⟩)):=by
 subst hn hm;refine St.nJ (A:=A) ?_ hk;refine St.nV ((sb,sc),(lb,lc)) (St.join ?_);refine St.perm ?_ (aem.swap _ _ _);exact St.join (h.perm ((aem.swap _ _ _).trans (aem.cons _ (aem.swap _ _ _))))
def DM(h:St W w L)(hk:L[k]?=some (dK d D)):∃sb sc lb lc,w.cell? ⟨d,0,none⟩=some (.l sb D.safe.length sc)/\w.cell? ⟨d,1,none⟩=some (.l lb D.later.length lc)/\
 w.cell? ⟨d,2,none⟩=some (.i D.ops)/\w.cell? ⟨d,3,none⟩=some (.i D.arm):=by
 obtain⟨sb,sc,lb,lc,hs⟩:=oO h hk;exact⟨sb,sc,lb,lc,(hs.cell (k:=0) rfl).1,(hs.cell (k:=0) rfl).1,(hs.cell (k:=0) rfl).1,(hs.cell (k:=0) rfl).1⟩
def xz{i:Int}{K:VK}(h:St W w L)(hk:L[k]?=some (dK d D))(hK:K (.bool (decide (D.is i))) w):lC (some ⟨d,0,none⟩) i K w:=by
 obtain⟨sb,sc,lb,lc,h0,_⟩:=DM h hk;unfold lC;simp only[nz,adV,adW];refine dc (λhi=>SJ h0 ?_) (λhi=>?_)
 ·simp only[nz,adV,adW];have e:decide (i<(D.safe.length:Int))=decide (D.is i):=decide_eq_decide.2 (by unfold aw.is;omega);rw[e];exact hK
 ·have e:false=decide (D.is i):=(decide_eq_false (by unfold aw.is;omega)).symm;rw[e];exact hK
def tC{K:VK}(h:St W w L)(hk:L[k]?=some (dK d D))(hK:∀w',St W w' (L.set k (dK d D.tick))->K (.bool D.qY) w'):jj (some ⟨d,0,none⟩) K w:=by
 obtain⟨sb,sc,lb,lc,hs⟩:=oO h hk;unfold jj;simp only[nz,adV,adW];refine bn (k:=0) hs rfl rfl ?_;simp only[nz,adV,adW];refine kP (k:=0) hs rfl (ad3 rfl) rfl λw hs=>?_;simp only[nz,adV,adW] at hs;refine bn (k:=0) hs rfl rfl ?_;simp only[nz,adV,adW];refine DQ (λh0=>?_) (λh0=>?_)
 ·have e:D.tick=⟨D.safe,D.later,adU.wrap (D.ops+1),D.arm⟩:=by simp[aw.tick,h0]
  have e2:D.qY=false:=by simp[aw.qY,h0]
  rw[e,e2] at hK;exact hK _ (nq hk rfl rfl hs)
 ·refine bn (k:=0) hs rfl rfl ?_;simp only[nz,adV,adW];refine kP (k:=0) hs rfl (ad3 rfl) rfl λw hs=>?_;simp only[nz,adV,adW] at hs;refine bn (k:=0) hs rfl rfl ?_;simp only[nz,adV,adW];have e:D.tick=⟨D.safe,D.later,adU.wrap (D.ops+1),adU.wrap (D.arm-1)⟩:=by simp[aw.tick,h0]
  have e2:D.qY=(adU.wrap (D.arm-1)==0):=by simp[aw.qY,h0]
  rw[e,e2] at hK;exact hK _ (nq hk rfl rfl hs)
end
section
variable {W w:World} {L:LH} {k d:Nat} {D:aw}
def AO(c:UInt8):∀n,AP [c] n=aec n c
 |0=>rfl
 |n+1=>by simp[AP,AO c n,List.replicate_succ]
def zk{s:BA}{n:Int}{K:VK}(h:St W w L)(h0:0<=n)(h1:s.size* n.toNat<=140737488355328)(h2:n<=9223372036854775807)(hK:∀w',St W w' L->K (.string ⟨(AP s.data.toList n.toNat).toArray⟩) w'):strings_Repeat s n K w:=
 ⟨⟨h0,h1,h2⟩,λw' hb=>hK w' (h.pC hb)⟩
def BT{K:VK}(h:St W w L)(hK:∀w',St W w' L->K (.string (jI 128)) w'):mS K w:=by
 unfold mS;refine zk h (by decide) (by decide) (by decide) λw h=>?_;simp only[nz,adV,adW];have e:(⟨(AP (⟨#[0]⟩:BA).data.toList (128:Int).toNat).toArray⟩:BA)=jI 128:=by
  show(⟨(AP [0] 128).toArray⟩:BA)=_;rw[AO];rfl
 rw[e];exact hK w h
def ka{K:VK}(h:St W w L)(hk:L[k]?=some (dK d D))(hK:K (.i (D.safe.length:Int)) w):dw (some ⟨d,0,none⟩) K w:=by
 obtain⟨sb,sc,lb,lc,h0,h1,h2,h3⟩:=DM h hk;unfold dw;simp only[nz,adV,adW];refine SJ h0 ?_;simp only[nz,adV,adW];exact hK
def CD{n:Int}{K:VK}(h:St W w L)(hk:L[k]?=some (dK d D))(hK:∀w',St W w' (L.set k (dK d (D.tA n)))->K (.tuple ⟨[]⟩) w'):jd (some ⟨d,0,none⟩) n K w:=by
 obtain⟨sb,sc,lb,lc,hs⟩:=oO h hk;unfold jd;simp only[nz,adV,adW];refine kP (k:=0) hs rfl (ad3 rfl) rfl λw hs=>?_;simp only[nz,adV,adW] at hs;exact hK _ (nq hk rfl rfl hs)
def ph(s:BA)(i j:Nat):(s.extract i j).size=min j s.size-i:=by simp[ByteArray.size_extract]
def Ca(n i:Nat):(jI n).extract i n=jI (n-i):=by
 apply ByteArray.ext;simp[jI,ByteArray.data_extract]
def vV{i:Int}{s:BA}{b:Bool}{K:VK}(h:St W w L)(hk:L[k]?=some (dK d D))(eO:D.Ok)(hb:b=decide (128<s.size))(hi:D.is i)
 (hK:∀w',St W w' (L.set k (dK d (D.write i s).1))->K (.i (D.write i s).2) w'):cG.j1 K (some ⟨d,0,none⟩) s i b w:=by
 unfold cG.j1;refine pB (λh1=>?_) (λh1=>?_)
 ·have h2:128<s.size:=by rw[hb] at h1;exact of_decide_eq_true h1
  have e:D.write i s=(D,1):=by simp[aw.write,h2]
  rw[e] at hK;refine hK w ?_;rw[jQ hk];exact h
 ·have h2: ¬128<s.size:=by rw[hb] at h1;exact of_decide_eq_false h1
  refine tC h hk λw h=>?_;simp only[nz,adV,adW];refine pB (λh3=>?_) (λh3=>?_)
  ·have e:D.write i s=(D.tick,8):=by simp[aw.write,h2,hi,h3]
   rw[e] at hK;exact hK w h
  ·have e:D.write i s=({D.tick with later:=D.later++[(i,aw.pad s)]},0):=by simp[aw.write,h2,hi,h3]
   rw[e] at hK;refine iP h λw h=>?_;have rz:(L.set k (dK d D.tick))[k]?=some (dK d D.tick):=fZ hk;obtain⟨sb,sc,lb,lc,hs⟩:=oO h rz;refine bn (k:=0) hs rfl rfl ?_;simp only[nz,adV,adW];refine BT hs λw hs=>?_;simp only[nz,adV,adW];refine gB (k:=0) hs rfl rfl ?_;have ou:(jI 128).size=128:=qm 128;unfold iX;simp only[nz,adV,adW];refine⟨⟨by omega,by omega⟩,?_⟩;have e3:(jI 128).extract (s.size:Int).toNat (jI 128).size=jI (128-s.size):=by rw[ou,adY];exact Ca 128 s.size
   rw[e3];refine⟨by rw[qm];omega,?_⟩;refine fE hs λr w hs=>?_;refine gB (k:=1) hs rfl rfl ?_;have hl:D.later.length<1099511627776:=eO.less;refine qj (k:=3) (n:=D.tick.later.length) (ys:=[.i i,.string (aw.pad s)]) hs rfl (B0 (k':=0) hs rfl rfl λj v hj=>by rw[ad1];exact hj) (by simp) rfl
    (by show(D.later.length+1)* 24<=_;omega) (by show D.later.length+1<=_;omega) (by simp[Value.oneCell']) λb' c' w hs=>?_
   simp only[nz,adV,adW] at hs⊢;refine kP (k:=1) hs rfl (ad3 rfl) rfl λw hs=>?_;simp only[nz,adV,adW] at hs;refine hK w ?_;have e4:gh D.tick.later++[.i i,.string (aw.pad s)]=gh (D.later++[(i,aw.pad s)]):=by simp[gh,aw.tick]
   rw[e4] at hs;have h5:=nq (sb:=sb) (sc:=sc) (lb:=b') (lc:=c') (safe:=D.safe) (ops:=D.tick.ops) (arm:=D.tick.arm) rz rfl (by simp[aw.tick]) hs.drop;rw[afb] at h5;exact h5
def zE{i:Int}{s:BA}{K:VK}(h:St W w L)(hk:L[k]?=some (dK d D))(eO:D.Ok)
 (hK:∀w',St W w' (L.set k (dK d (D.write i s).1))->K (.i (D.write i s).2) w'):cG (some ⟨d,0,none⟩) i s K w:=by
 unfold cG;simp only[nz,adV,adW];refine xz h hk ?_;simp only[nz,adV,adW];by_cases hi:D.is i
 ·rw[decide_eq_true hi];simp only[nz,adV,adW];refine vV h hk eO ?_ hi hK;exact decide_eq_decide.2 (by omega)
 ·rw[decide_eq_false hi];simp only[nz,adV,adW];have e:D.write i s=(D,1):=by simp[aw.write,hi]
  rw[e] at hK;unfold cG.j1;simp only[nz,adV,adW];refine hK w ?_;rw[jQ hk];exact h
end
def ar{n:Int}(h: -9223372036854775808<=n/\n<=9223372036854775807):adU.wrap n=n:=by
 simp only[IntKind.wrap,IntKind.bits,IntKind.signed,ae0,decide_eq_true_eq,Int.reducePow,Nat.reduceSub,ge_iff_le];split<;>omega
def mh(i:Nat)(h:i<9223372036854775807:=by omega):adU.wrap ((i:Int)+1)=((i+1:Nat):Int):=by
 rw[ar (by omega)];omega
def po(l m:List (Int×BA))(i:Int):aw.last (l++m) i=(aw.last m i).or (aw.last l i):=by
 unfold aw.last;rw[List.reverse_append,List.find?_append];cases List.find? (λp=>p.1==i) m.reverse<;>simp
def uP(p:Int×BA)(l:List (Int×BA))(i:Int):aw.last (p::l) i=(aw.last l i).or (if p.1==i then some p.2 else none):=by
 rw[show p::l=[p]++l from rfl,po]
 congr 1
 simp only[aw.last,List.reverse_singleton,List.find?_cons,List.find?_nil];cases h:(p.1==i)<;>simp
section
variable {W w:World} {L:LH} {k d:Nat} {D:aw}
def drop_cons{α:Type}{l:List α}{j:Nat}{p:α}(h:l[j]?=some p):l.drop j=p::l.drop (j+1):=by
 obtain⟨hj,he⟩:=adZ.1 h;rw[<-he];exact aeD hj
def om{i:Int}{K:VK}(h:St W w L)(hk:L[k]?=some (dK d D))(eO:D.Ok)(hK:K (.tuple ⟨[.string (D.read i).1,.i (D.read i).2]⟩) w):ga (some ⟨d,0,none⟩) i K w:=by
 obtain⟨sb,sc,lb,lc,hs⟩:=oO h hk;have hl:=eO.less;unfold ga;simp only[nz,adV,adW];refine xz h hk ?_;simp only[nz,adV,adW];by_cases hi:D.is i
 case neg=>
  rw[decide_eq_false hi];simp only[nz,adV,adW];have e:D.read i=(.empty,1):=by simp[aw.read,hi]
  rw[e] at hK;exact hK
 rw[decide_eq_true hi];simp only[nz,adV,adW];have e:D.read i=(D.now i,0):=by simp[aw.read,hi]
 rw[e] at hK;refine bn (k:=0) hs rfl rfl ?_;simp only[nz,adV,adW];refine⟨λus w'=>∃j:Nat,us=[.string .empty,.i 0,.i ((j:Int) -1)]/\w'=w/\j<=D.later.length/\aw.last (D.later.drop j) i=none,
  λus _=>match us with|[_,_,.int _ n]=>(n+1).toNat|_=>0,⟨D.later.length,by rw[ar (by omega)],rfl,ad4 _,by simp[aw.last]⟩,?_⟩
 rintro s1 n2 n3 w2 ⟨j,he,rfl,hj,hn⟩;cases he
 refine dc (λh0=>?_) (λh0=>?_)
 ·obtain⟨m,rfl⟩:∃m,j=m+1:=⟨j-1,by omega⟩;have aZ:m<D.later.length:=by omega
  obtain⟨p,hp⟩:∃p,D.later[m]?=some p:=⟨D.later[m],by simp[aZ]⟩;obtain⟨Q5,Ey⟩:=qv _ _ _ hp;have em:((m+1:Nat):Int) -1=(m:Int):=by omega
  rw[em];refine bn (k:=0) hs rfl rfl ?_;simp only[nz,adV,adW];refine nS (k:=2) hs rfl (by omega) λr hr=>?_;subst hr;simp only[nz,adV,adW];refine vJ (k:=2) hs rfl (v:=.i p.1) (by rw[adY];exact Q5) ?_;simp only[nz,adV,adW];refine DQ (λh1=>?_) (λh1=>?_)
  ·refine bn (k:=0) hs rfl rfl ?_;simp only[nz,adV,adW];refine nS (k:=2) hs rfl (by omega) λr' XG=>?_;cases XG
   simp only[nz,adV,adW];refine vJ (k:=2) hs rfl (v:=.string p.2) (by rw[adY];exact Ey) ?_;simp only[nz,adV,adW];have:D.now i=p.2:=by
    unfold aw.now;have qw:D.later=D.later.take m++(p::D.later.drop (m+1)):=by rw[<-drop_cons hp,aer]
    rw[qw,po,uP,hn];simp[h1]
   rw[this] at hK;exact hK
  ·have e5:adU.wrap ((m:Int) -1)=(m:Int) -1:=ar (by omega);rw[e5];refine⟨⟨m,rfl,rfl,by omega,?_⟩,by omega⟩;rw[drop_cons hp,uP,hn];simp[h1]
 ·have X1:j=0:=by omega
  subst X1;have Du:aw.last D.later i=none:=hn;refine bn (k:=0) hs rfl rfl ?_;simp only[nz,adV,adW];refine nS (k:=1) hs rfl hi λr hr=>?_;subst hr;have aZ:i.toNat<D.safe.length:=by have:=hi.1;have:=hi.2;omega
  refine vJ (k:=1) hs rfl (v:=.string (D.safe[i.toNat])) (by simp[aZ]) ?_;simp only[nz,adV,adW];have:D.now i=D.safe[i.toNat]:=by
   unfold aw.now;rw[Du];simp[aZ]
  rw[this] at hK;exact hK
def Pg{n:Int}{K:VK}(h:St W w L)(hK:∀d w',St W w' (dK d (aw.new n)::L)->K (.p (some ⟨d,0,none⟩)) w'):jS n K w:=by
 unfold jS;simp only[nz,adV,adW];refine fE h λd w hs=>?_;have hn:0<=min2 (max2 n 0) 4096/\min2 (max2 n 0) 4096<=4096:=by unfold min2 max2;split<;>split<;>omega
 refine⟨λus w'=>∃(j:Nat)(b:OA)(c:Nat),us=[.p none,.p (some ⟨d,0,none⟩),.i (min2 (max2 n 0) 4096),.i j]/\(j:Int)<=min2 (max2 n 0) 4096/\
  St W w' (pt d [.l b j c,.l none 0 0,.i 0,.i 0]::own b j c 1 ((aec j (jI 128)).map .string)::L),
  λus _=>match us with|[_,_,.int _ m,.int _ j]=>(m-j).toNat|_=>0,⟨0,none,0,rfl,hn.1,?_⟩,?_⟩
 ·refine(hs.push (nO 1)).perm (aem.swap _ _ _)
 ·rintro p1 a1 n2 n3 w2 ⟨j,b,c,he,hj,hs⟩;cases he
  refine dc (λh0=>?_) (λh0=>?_)
  ·refine iP hs λw hs=>?_;simp only[nz,adV,adW];refine bn (k:=0) hs rfl rfl ?_;simp only[nz,adV,adW];refine BT hs λw hs=>?_;simp only[nz,adV,adW];refine gB (k:=0) hs rfl rfl ?_;simp only[nz,adV,adW];refine fE hs λr w hs=>?_;refine gB (k:=1) hs rfl rfl ?_;refine qj (k:=2) (ys:=[.string (jI 128)]) hs rfl (B0 (k':=0) hs rfl rfl λj v hj=>by rw[ad1];exact hj) (by simp) rfl (by omega) (by omega) (by simp[Value.oneCell']) λb' c' w hs=>?_;simp only[nz,adV,adW] at hs⊢;refine kP (k:=1) hs rfl (ad3 rfl) rfl λw hs=>?_;simp only[nz,adV,adW] at hs;have e5:=mh j;rw[e5];refine⟨⟨j+1,b',c',rfl,by omega,?_⟩,by omega⟩;have e6:(aec j (jI 128)).map Value.string++[.string (jI 128)]=(aec (j+1) (jI 128)).map .string:=by
    rw[List.replicate_succ'];simp
   rw[e6] at hs;exact hs.drop
  ·have EC:(j:Int)=min2 (max2 n 0) 4096:=by omega
   have hj3:j=(min2 (max2 n 0) 4096).toNat:=by omega
   have fo:St W w2 (pt d [.l b j c,.l none 0 0,.i 0,.i 0]::own b j c 1 ((aec j (jI 128)).map .string)::own none 0 0 2 (gh [])::L):=
    (hs.push (A:=own none 0 0 2 (gh [])) (nO 2)).perm ((aem.swap _ _ _).trans (aem.cons _ (aem.swap _ _ _)))
   have:=nq (L:=dK d (aw.new n)::L) (k:=0) (A:=dK d (aw.new n)) (safe:=aec j (jI 128)) (later:=[]) (ops:=0) (arm:=0) rfl (by simp) rfl fo;refine hK d w2 ?_;have e7:aw.new n=⟨aec j (jI 128),[],0,0⟩:=by unfold aw.new;rw[<-hj3]
   rw[e7];exact this
end
def kD(l:List (Int×BA))(safe:List BA):(l.foldl aw.put safe).length=safe.length:=by
 induction l generalizing safe with
 |nil=>rfl
 |cons p l ih=>rw[List.foldl_cons,ih];simp[aw.put]
def Cd{α:Type}{l:List α}{j:Nat}{p:α}(h:l[j]?=some p):l.take (j+1)=l.take j++[p]:=by
 obtain⟨hj,he⟩:=adZ.1 h;rw[aeS hj,he]
section
variable {W w:World} {L:LH} {k d:Nat} {D:aw}
def qI{K:VK}(h:St W w L)(hk:L[k]?=some (dK d D))(eO:D.Ok)(hK:∀w',St W w' (L.set k (dK d D.sync.1))->K (.i D.sync.2) w'):il (some ⟨d,0,none⟩) K w:=by
 have hl:=eO.less;unfold il;simp only[nz,adV,adW];refine tC h hk λw h=>?_;simp only[nz,adV,adW];refine pB (λhf=>?_) (λhf=>?_)
 ·have e:D.sync=(D.tick,8):=by simp[aw.sync,hf]
  rw[e] at hK;exact hK w h
 have e:D.sync=({D.tick with safe:=D.later.foldl aw.put D.safe,later:=[]},0):=by simp[aw.sync,hf]
 rw[e] at hK;have rz:(L.set k (dK d D.tick))[k]?=some (dK d D.tick):=fZ hk;obtain⟨sb,sc,lb,lc,hs⟩:=oO h rz;refine bn (k:=0) hs rfl rfl ?_;simp only[nz,adV,adW];refine⟨λus w'=>∃j:Nat,us=[.i 0,.l lb D.later.length lc,.i D.later.length,.i j]/\j<=D.later.length/\
    St W w' (pt d (oP sb lb D.safe.length sc D.later.length lc D.tick.ops D.tick.arm)::own sb D.safe.length sc 1 (((D.later.take j).foldl aw.put D.safe).map .string)::own lb D.later.length lc 2 (gh D.later)::(L.set k (dK d D.tick)).eraseIdx k),
  λus _=>match us with|[_,_,_,.int _ j]=>D.later.length-j.toNat|_=>0,⟨0,rfl,ad6 _,hs⟩,?_⟩
 rintro n1 uG pY uF n2 n3 w2 ⟨j,he,hj,hs⟩;cases he
 refine dc (λh0=>?_) (λh0=>?_)
 ·have aZ:j<D.later.length:=by omega
  obtain⟨p,hp⟩:∃p,D.later[j]?=some p:=⟨D.later[j],by simp[aZ]⟩;obtain⟨Q5,Ey⟩:=qv _ _ _ hp;obtain⟨Lo,UC,XJ⟩:=eO.later p (aep hp);refine nS (k:=2) hs rfl (by omega) λr hr=>?_;subst hr;refine z7 (k:=2) (ys:=[.i p.1,.string p.2]) hs rfl rfl (λi v hi=>?_) ?_
  ·rw[adY]
   match i,hi with
   |0,hi=>simp at hi;subst hi;exact Q5
   |1,hi=>simp at hi;subst hi;exact Ey
  refine fE hs λr1 w hs=>?_;simp only[nz,adV,adW];refine⟨rfl,fX (k:=0) hs rfl (ad3 rfl) (by simp[Value.oneCell']) λw hs=>?_⟩;simp only[nz,adV,adW] at hs;refine iP hs λw hs=>?_;refine bn (k:=1) hs rfl rfl ?_;simp only[nz,adV,adW];refine bn (k:=0) hs rfl rfl ?_;simp only[nz,adV,adW];refine bn (k:=0) hs rfl rfl ?_;simp only[nz,adV,adW];refine nS (k:=2) hs rfl ⟨UC,XJ⟩ λr hr=>?_;subst hr;refine xJ (k:=2) hs rfl (by rw[aen,kD];omega) rfl λw hs=>?_;simp only[nz,adV,adW] at hs;have e5:=mh j;rw[e5];refine⟨⟨j+1,rfl,by omega,?_⟩,by omega⟩;have e6:(((D.later.take j).foldl aw.put D.safe).map Value.string).set (p.1.toNat* 1) (.string p.2)=((D.later.take (j+1)).foldl aw.put D.safe).map .string:=by
   rw[Cd hp,List.foldl_append,afn];simp[aw.put,List.map_set]
  rw[e6] at hs;exact hs.drop
 ·have EC:j=D.later.length:=by omega
  subst EC;refine kP (k:=0) hs rfl (ad3 rfl) rfl λw hs=>?_;simp only[nz,adV,adW] at hs;refine hK w ?_;rw[ad'] at hs;have qU:=(hs.perm ((aem.cons _ (aem.swap _ _ _)).trans (aem.swap _ _ _))).drop.push (nO 2);have tG:=qU.perm ((aem.swap _ _ _).trans (aem.cons _ (aem.swap _ _ _)));have h5:=nq (sb:=sb) (sc:=sc) (lb:=none) (lc:=0) (safe:=D.later.foldl aw.put D.safe) (later:=[]) (ops:=D.tick.ops) (arm:=D.tick.arm) rz (kD _ _).symm rfl tG;rw[afb] at h5;exact h5
def BH(mask torn c:Int)(safe:List BA)(k:Nat)(p:Int×BA):(aw.jW mask torn c safe k p).length=safe.length:=by
 unfold aw.jW;split
 ·simp
 ·split<;>simp
def crashed(mask torn c:Int)(safe:List BA)(later:List (Int×BA)):Nat->List BA
 |0=>safe
 |j+1=>match later[j]? with
  |some p=>aw.jW mask torn c (crashed mask torn c safe later j) j p
  |none=>crashed mask torn c safe later j
def fG(mask torn c:Int)(safe:List BA)(later:List (Int×BA)):∀j,(crashed mask torn c safe later j).length=safe.length
 |0=>rfl
 |j+1=>by
  simp only[crashed];cases later[j]? with
  |none=>exact fG mask torn c safe later j
  |some p=>simp only[];rw[BH];exact fG mask torn c safe later j
def ta(mask torn c:Int)(later:List (Int×BA))(safe:List BA):∀(n j:Nat),j+n=later.length->
 aw.sg mask torn c j (later.drop j) (crashed mask torn c safe later j)=crashed mask torn c safe later later.length
 |0,j,h=>by
  have:j=later.length:=by omega
  subst this;simp[aw.sg]
 |n+1,j,h=>by
  have aZ:j<later.length:=by omega
  rw[aeD aZ];simp only[aw.sg];have:=ta mask torn c later safe n (j+1) (by omega);simp only[crashed,adX aZ] at this;exact this
def zF{mask torn cut:Int}{K:VK}(h:St W w L)(hk:L[k]?=some (dK d D))(eO:D.Ok)(hK:∀w',St W w' (L.set k (dK d (D.db mask torn cut)))->K (.tuple ⟨[]⟩) w'):
 jk (some ⟨d,0,none⟩) mask torn cut K w:=by
 have hl:=eO.less;have hc:0<=min2 (max2 cut 0) 128/\min2 (max2 cut 0) 128<=128:=by unfold min2 max2;split<;>split<;>omega
 have hcr:D.db mask torn cut=⟨crashed mask torn (min2 (max2 cut 0) 128) D.safe D.later D.later.length,[],D.ops,0⟩:=by
  unfold aw.db;have:=ta mask torn (min2 (max2 cut 0) 128) D.later D.safe D.later.length 0 (by omega);simp only[ae5,crashed] at this;rw[this]
 rw[hcr] at hK;obtain⟨sb,sc,lb,lc,hs⟩:=oO h hk;unfold jk;generalize min2 (max2 cut 0) 128=c at *;simp only[nz,adV,adW];refine bn (k:=0) hs rfl rfl ?_;simp only[nz,adV,adW];refine⟨λus w'=>∃j:Nat,us=[.i c,.l lb D.later.length lc,.i D.later.length,.i j]/\j<=D.later.length/\
    St W w' (pt d (oP sb lb D.safe.length sc D.later.length lc D.ops D.arm)::own sb D.safe.length sc 1 ((crashed mask torn c D.safe D.later j).map .string)::own lb D.later.length lc 2 (gh D.later)::L.eraseIdx k)/\
    (∀s∈crashed mask torn c D.safe D.later j,s.size=128),
  λus _=>match us with|[_,_,_,.int _ j]=>D.later.length-j.toNat|_=>0,⟨0,rfl,ad6 _,hs,eO.safe⟩,?_⟩
 rintro n4 uG pY uF n5 n6 w2 ⟨j,he,hj,hs,yk⟩;cases he
 refine dc (λh0=>?_) (λh0=>?_)
 ·have aZ:j<D.later.length:=by omega
  obtain⟨p,hp⟩:∃p,D.later[j]?=some p:=⟨D.later[j],by simp[aZ]⟩;obtain⟨Q5,Ey⟩:=qv _ _ _ hp;obtain⟨Lo,UC,XJ⟩:=eO.later p (aep hp);have wZ:p.1.toNat<(crashed mask torn c D.safe D.later j).length:=by rw[fG];omega
  have e5:=mh j;have dJ:crashed mask torn c D.safe D.later (j+1)=aw.jW mask torn c (crashed mask torn c D.safe D.later j) j p:=by
   simp only[crashed,hp]
  have Yu:∀s∈crashed mask torn c D.safe D.later (j+1),s.size=128:=by
   rw[dJ];intro s hs;unfold aw.jW at hs;split at hs
   ·rcases aeC hs with hs|hs
    ·exact yk s hs
    ·rw[hs];have:=yk _ (aej wZ);rw[aeM,adX wZ,aew,ByteArray.size_append,ph,ph,this,Lo];omega
   ·split at hs
    ·rcases aeC hs with hs|hs
     ·exact yk s hs
     ·rw[hs];exact Lo
    ·exact yk s hs
  refine nS (k:=2) hs rfl (by omega) λr hr=>?_;subst hr;refine z7 (k:=2) (ys:=[.i p.1,.string p.2]) hs rfl rfl (λi v hi=>?_) ?_
  ·rw[adY]
   match i,hi with
   |0,hi=>simp at hi;subst hi;exact Q5
   |1,hi=>simp at hi;subst hi;exact Ey
  refine fE hs λr1 w hs=>?_;simp only[nz,adV,adW];refine⟨rfl,fX (k:=0) hs rfl (ad3 rfl) (by simp[Value.oneCell']) λw hs=>?_⟩;simp only[nz,adV,adW] at hs;rw[e5];have fin:∀w',St W w' (pt r1 (over [.i 0,.string .empty] 0 [.i p.1,.string p.2])::pt d (oP sb (some ⟨r,0,none⟩) D.safe.length sc D.later.length lc D.ops D.arm)::own sb D.safe.length sc 1 ((crashed mask torn c D.safe D.later (j+1)).map .string)::own (some ⟨r,0,none⟩) D.later.length lc 2 (gh D.later)::L.eraseIdx k)->
                                                                                                                                                            (∃j':Nat,[Value.int .i64 c,.l (some ⟨r,0,none⟩) D.later.length lc,.i D.later.length,.i ((j+1:Nat):Int)]=[.i c,.l (some ⟨r,0,none⟩) D.later.length lc,.i D.later.length,.i j']/\j'<=D.later.length/\
   St W w' (pt d (oP sb (some ⟨r,0,none⟩) D.safe.length sc D.later.length lc D.ops D.arm)::own sb D.safe.length sc 1 ((crashed mask torn c D.safe D.later j').map .string)::own (some ⟨r,0,none⟩) D.later.length lc 2 (gh D.later)::L.eraseIdx k)/\
   (∀s∈crashed mask torn c D.safe D.later j',s.size=128)):=λw' hs=>⟨j+1,rfl,by omega,hs.drop,Yu⟩
  refine DQ (λht=>?_) (λht=>?_)
  ·refine iP hs λw hs=>?_;refine bn (k:=1) hs rfl rfl ?_;simp only[nz,adV,adW];refine bn (k:=0) hs rfl rfl ?_;simp only[nz,adV,adW];refine bn (k:=0) hs rfl rfl ?_;simp only[nz,adV,adW];unfold iX;simp only[nz,adV,adW];refine⟨⟨hc.1,by omega⟩,?_⟩;refine bn (k:=1) hs rfl rfl ?_;simp only[nz,adV,adW];refine bn (k:=0) hs rfl rfl ?_;simp only[nz,adV,adW];refine nS (k:=2) hs rfl ⟨UC,XJ⟩ λr' XG=>?_;subst XG;refine vJ (k:=2) hs rfl (v:=.string ((crashed mask torn c D.safe D.later j)[p.1.toNat])) (by rw[afn,aeJ,adX wZ];rfl) ?_;simp only[nz,adV,adW];have h1:=yk _ (aej wZ);refine⟨⟨hc.1,by rw[h1];exact hc.2⟩,⟨by rw[ph,ph];omega,?_⟩⟩;refine nS (k:=2) hs rfl ⟨UC,XJ⟩ λr'' aaz=>?_;cases aaz
   refine xJ (k:=2) hs rfl (by rw[aen,afn];exact wZ) rfl λw hs=>?_;simp only[nz,adV,adW] at hs;refine⟨fin w ?_,by omega⟩;rw[dJ];have e6:(aw.jW mask torn c (crashed mask torn c D.safe D.later j) j p).map Value.string=((crashed mask torn c D.safe D.later j).map Value.string).set (p.1.toNat* 1) (.string (p.2.extract 0 c.toNat++((crashed mask torn c D.safe D.later j)[p.1.toNat]).extract c.toNat ((crashed mask torn c D.safe D.later j)[p.1.toNat]).size)):=by
    unfold aw.jW;rw[if_pos ht,List.map_set,afn,aeM,adX wZ];rfl
   rw[e6];exact hs
  ·refine⟨by unfold min2;split<;>omega,?_⟩;refine pB (λhb=>?_) (λhb=>?_)
   ·refine iP hs λw hs=>?_;refine bn (k:=1) hs rfl rfl ?_;simp only[nz,adV,adW];refine bn (k:=0) hs rfl rfl ?_;simp only[nz,adV,adW];refine bn (k:=0) hs rfl rfl ?_;simp only[nz,adV,adW];refine nS (k:=2) hs rfl ⟨UC,XJ⟩ λr' XG=>?_;subst XG;refine xJ (k:=2) hs rfl (by rw[aen,afn];exact wZ) rfl λw hs=>?_;simp only[nz,adV,adW] at hs;refine⟨fin w ?_,by omega⟩;rw[dJ];have e6:(aw.jW mask torn c (crashed mask torn c D.safe D.later j) j p).map Value.string=((crashed mask torn c D.safe D.later j).map Value.string).set (p.1.toNat* 1) (.string p.2):=by
     unfold aw.jW;have m8:aw.bit mask j=true:=hb;rw[if_neg ht,if_pos m8,List.map_set,afn]
    rw[e6];exact hs
   ·refine⟨fin w ?_,by omega⟩;rw[dJ];have e6:aw.jW mask torn c (crashed mask torn c D.safe D.later j) j p=crashed mask torn c D.safe D.later j:=by
     unfold aw.jW;rw[if_neg ht,if_neg (by rw[aw.bit,hb];exact aeq)]
    rw[e6];exact hs
 ·have EC:j=D.later.length:=by omega
  subst EC;refine kP (k:=0) hs rfl (ad3 rfl) rfl λw hs=>?_;simp only[nz,adV,adW] at hs;refine kP (k:=0) hs rfl (ad3 rfl) rfl λw hs=>?_;simp only[nz,adV,adW] at hs;refine hK w ?_;have qU:=(hs.perm ((aem.cons _ (aem.swap _ _ _)).trans (aem.swap _ _ _))).drop.push (nO 2);have tG:=qU.perm ((aem.swap _ _ _).trans (aem.cons _ (aem.swap _ _ _)));exact nq (sb:=sb) (sc:=sc) (lb:=none) (lc:=0) (safe:=crashed mask torn c D.safe D.later D.later.length) (later:=[]) (ops:=D.ops) (arm:=0) hk (fG _ _ _ _ _ _).symm rfl tG
end
def Ro(W:World)(b:OA)(n e:Nat)(xs:LV):Prop:=
 xs.length=n* e/\(b=none->n=0)/\∀a,b=some a->∀j v,xs[j]?=some v->W.cell? (a.add j)=some v
def add_add(a:Addr)(m n:Nat):(a.add m).add n=a.add (m+n):=by
 unfold Addr.add;by_cases h1:m=0
 ·subst h1;simp
 ·by_cases h2:n=0
  ·subst h2;simp[h1]
  ·rw[if_neg h1,if_neg h2,if_neg (by omega)];simp;omega
section
variable {W w:World} {L:LH} {b:OA} {n e:Nat} {xs:LV}
def Ah{W:World}{a:Addr}{v:Value}(h:W.cell? a=some v):a.block<W.heap.size:=by
 unfold World.cell? at h;cases hb:W.heap[a.block]? with
 |none=>simp[hb] at h
 |some x=>exact(Array.getElem?_eq_some_iff.1 hb).1
def St.old(h:St W w L){a:Addr}(ha:a.block<W.heap.size):w.cell? a=W.cell? a:=h.1.cell ha
def Ro.cell(hr:Ro W b n e xs){a:Addr}(hb:b=some a)(h:St W w L){j:Nat}{v:Value}(hv:xs[j]?=some v):w.cell? (a.add j)=some v:=by
 have h2:=hr.2.2 a hb j v hv;rw[h.old (Ah h2)];exact h2
end
def pX(x y:BA):pk x y=decide (x=y):=by
 unfold pk;by_cases h:x=y
 ·subst h;simp
 ·have:x.toList≠y.toList:=by
   rw[ByteArray.toList_eq,ByteArray.toList_eq];intro he;exact h (ByteArray.ext (afz he))
  simp[h,this]
end Go.Sep
namespace Go.Prog
def Sp:Nat:=202
def TG:Nat:=5
end Go.Prog
namespace Go.Prog
open Go.Den Go.RowKit
def SM(B b:Nat)(l:List UInt8)(w:World):Prop:=Go.Lib.IsBuilder Sp TG B b (Go.Lib.byteCells l) w
def eJ(p:OA)(s:BA)(K:VK):WK:=λw=>∃B b l,p=some ⟨b,0,none⟩/\SM B b l w/\l.length+s.size<=140737488355328/\B<=w.heap.size/\
 ∀w',SM B b (l++s.data.toList) w'->Below B w w'->K (.tuple ⟨[.i s.size,.nilIface]⟩) w'
def eJ.u:WP:=λargs K=>match args with|[.pointer p,.string s]=>eJ p s K|_=>no
def fW(p:OA)(K:VK):WK:=λw=>∃B b l,p=some ⟨b,0,none⟩/\SM B b l w/\B<=w.heap.size/\∀w',Below B w w'->K (.string ⟨l.toArray⟩) w'
def fW.u:WP:=λargs K=>match args with|[.pointer p]=>fW p K|_=>no
end Go.Prog
namespace Go.Prog
open Go.Den
abbrev ad(r o:Nat):Addr:=⟨r,o,none⟩
def nt(x y c:Int)(K:VK):WK:=a8 ((0<=x/\0<=y)/\0<=c/\c<=1) (K (.tuple ⟨[.u ((x+y+c)%18446744073709551616),.u ((x+y+c)/18446744073709551616)]⟩))
def nt.u:WP:=λargs K=>match args with|[.int .u64 x,.int .u64 y,.int .u64 c]=>nt x y c K|_=>no
def nr(x y c:Int)(K:VK):WK:=a8 ((0<=x/\0<=y/\y<18446744073709551616)/\0<=c/\c<=1) (K (.tuple ⟨[.u ((x-y-c)%18446744073709551616),.u (if x<y+c then 1 else 0)]⟩))
def nr.u:WP:=λargs K=>match args with|[.int .u64 x,.int .u64 y,.int .u64 c]=>nr x y c K|_=>no
end Go.Prog
namespace Go.Up
open Go.Sep Go.Den Go.RowKit Go.Prog
def T(W:World)(L:LH)(X:WK):Prop:=∀w,St W w L->X w
class Lc{α:Type}(P:α->HP)(L:LH)(x:outParam α)(f:outParam (α->LH)):Prop where
 at_:∃k:Nat,L[k]?=some (P x)/\∀y,f y=L.set k (P y)
instance Lc.head{α:Type}{P:α->HP}{x:α}{L:LH}:Lc P (P x::L) x (λy=>P y::L):=⟨0,rfl,λ_=>rfl⟩
instance Lc.tail{α:Type}{P:α->HP}{A:HP}{x:α}{L:LH}{f:α->LH}[h:Lc P L x f]:Lc P (A::L) x (λy=>A::f y):=by
 obtain⟨k,h1,h2⟩:=h.at_;exact⟨k+1,h1,λy=>by rw[h2];rfl⟩
def Lc.same{α:Type}{P:α->HP}{L:LH}{x:α}{f:α->LH}(h:Lc P L x f):f x=L:=by
 obtain⟨k,h1,h2⟩:=h.at_;rw[h2];exact jQ h1
theorem Lc.next{α:Type}{P:α->HP}{L:LH}{x:α}{f:α->LH}(h:Lc P L x f)(y:α):Lc P (f y) y f:=by
 obtain⟨k,h1,h2⟩:=h.at_;exact⟨k,by rw[h2];exact fZ h1,λz=>by rw[h2,h2,afb]⟩
class Sub(cs:LV)(o n:Nat)(xs:outParam (LV)):Prop where
 is:xs.length=n/\∀j v,xs[j]?=some v->cs[o+j]?=some v
class Wr(cs:LV)(o:Nat)(xs:LV)(ds:outParam (LV)):Prop where
 is:over cs o xs=ds/\o+xs.length<=cs.length/\∀v∈xs,v.oneCell'=true
class One(v:Value):Prop where
 is:v.oneCell'=true
instance{k:IntKind}{n:Int}:One (.int k n):=⟨rfl⟩
instance{b:OA}{n c:Nat}:One (.l b n c):=⟨rfl⟩
instance Wr.head{a v:Value}{cs:LV}[h:One v]:Wr (a::cs) 0 [v] (v::cs):=⟨by simp[over],by simp,λu hu=>by simp at hu;rw[hu];exact h.is⟩
instance Wr.tail{a v:Value}{cs ds:LV}{o:Nat}[h:Wr cs o [v] ds]:Wr (a::cs) (o+1) [v] (a::ds):=by
 obtain⟨h1,h2,h3⟩:=h.is;refine⟨?_,by simp at h2⊢;omega,h3⟩;rw[<-h1];simp only[over,afk,List.take_succ_cons,afa,Nat.add_right_comm o 1 1,List.drop_succ_cons]
section
variable {W:World} {L M:LH} {X Y:WK}
def T.at{w:World}(h:T W L X)(hs:St W w L):X w:=h w hs
def T.drop{A:HP}(h:T W L X):T W (A::L) X:=λw hs=>h w hs.drop
def T.perm(h:T W L X)(p:M.Perm L):T W M X:=λw hs=>h w (hs.perm p)
def T.fin{K:VK}{v v':Value}(h:T W L (K v))(e:v'=v):T W L (K v'):=e▸h
def qL{cs:LV}{F:Nat->WK}(h:∀r,T W (pt r cs::L) (F r)):T W L (mk cs F):=λw hs=>fE hs λr w' h'=>h r w' h'
def vt(h:T W L X):T W L (tick X):=λw hs=>iP hs λw' h'=>h w' h'
def cL{p:Prop}(hp:p)(h:T W L X):T W L (a8 p X):=λw hs=>⟨hp,h w hs⟩
def M6(h:T W L X):T W L (a8 True X):=cL trivial h
def TP{a b:Nat}(e:a=b)(h:T W L X):T W L (a8 (a=b) X):=cL e h
def TQ{a b:Nat}{q:Prop}(e:a=b)(h:T W L (a8 q X)):T W L (a8 (a=b/\q) X):=λw hs=>⟨⟨e,(h w hs).1⟩,(h w hs).2⟩
def bw{b:Bool}(h1:b=true->T W L X)(h2:b=false->T W L Y):T W L (br b X Y):=λw hs=>pB (λe=>h1 e w hs) (λe=>h2 e w hs)
def jN{b:Bool}(e:b=true)(h:T W L X):T W L (br b X Y):=by subst e;exact h
def dO{b:Bool}(e:b=false)(h:T W L Y):T W L (br b X Y):=by subst e;exact h
def vy(h:T W L X):T W L (br true X Y):=h
def mL(h:T W L Y):T W L (br false X Y):=h
def AB(h:T W L Y):T W L (br (!true) X Y):=h
def tQ{α:Type}{a:α}(h:T W L Y):T W L (br (Option.isNone (some a)) X Y):=h
def TR{α:Type}{a:α}(h:T W L X):T W L (br (!(Option.isNone (some a))) X Y):=h
def zp{a:Addr}{K:Addr->WK}(h:T W L (K a)):T W L (nn (some a) K):=h
def TS(h1:T W L X)(h2:T W L Y):T W L (both X Y):=λw hs=>⟨h1 w hs,h2 w hs⟩
def lA{k:IntKind}{K:Int->WK}{n:Int}(h:T W L (K n)):T W L (xI k K (.int k n)):=λw hs=>by rw[Sj];exact h w hs
def nK{K:Bool->WK}{n:Bool}(h:T W L (K n)):T W L (xB K (.bool n)):=λw hs=>by rw[MH];exact h w hs
def P9{K:BA->WK}{n:BA}(h:T W L (K n)):T W L (xS K (.string n)):=λw hs=>by rw[MG];exact h w hs
def vr{K:OA->WK}{n:OA}(h:T W L (K n)):T W L (xP K (.p n)):=λw hs=>by rw[Sh];exact h w hs
def tN{K:OA->Nat->Nat->WK}{b:OA}{n c:Nat}(h:T W L (K b n c)):T W L (xL K (.l b n c)):=λw hs=>by rw[Si];exact h w hs
def xF{n:Nat}{K:LV->WK}{cs:LV}(hn:cs.length=n)(h:T W L (K cs)):T W L (xA n K (.agg ⟨cs⟩)):=λw hs=>by rw[tj];exact⟨hn,h w hs⟩
def wu(h:T W L X):T W L (x0 X (.tuple ⟨[]⟩)):=λw hs=>by rw[Sm];exact h w hs
def P'{K:Value->Value->WK}{a b:Value}(h:T W L (K a b)):T W L (x2 K (.tuple ⟨[a,b]⟩)):=λw hs=>by rw[Sl];exact h w hs
def TK{K:Value->Value->Value->WK}{a b c:Value}(h:T W L (K a b c)):T W L (x3 K (.tuple ⟨[a,b,c]⟩)):=λw hs=>by rw[Sk];exact h w hs
variable {r o n:Nat} {cs xs ds:LV} {f:LV->LH} {v:Value}
def jM{K:VK}[i:Lc (pt r) L cs f](hv:cs[o]?=some v)(h:T W L (K v)):T W L (ld ⟨r,o,none⟩ K):=λw hs=>
 let⟨_,hk,_⟩:=i.at_;bn hs hk hv (h w hs)
def WN{K:LV->WK}[i:Lc (pt r) L cs f][s:Sub cs o n xs](h:T W L (K xs)):T W L (ai ⟨r,o,none⟩ n K):=λw hs=>
 let⟨_,hk,_⟩:=i.at_;gg hs hk s.is.1 s.is.2 (h w hs)
def aae[i:Lc (pt r) L cs f][s:Wr cs o [v] ds](h:T W (f ds) X):T W L (st ⟨r,o,none⟩ v X):=λw hs=>by
 obtain⟨k,hk,e⟩:=i.at_;obtain⟨s1,s2,s3⟩:=s.is;refine kP hs hk (by have:=s2;simp at this;omega) (s3 v (by simp)) λw' h'=>h w' ?_;rw[e,<-s1];have:over cs o [v]=cs.set o v:=by
  apply afg;intro j;rw[wK s2,aet];simp only[aee,aes] at s2⊢;by_cases h1:j<o
  ·rw[if_pos h1,if_neg (by omega)]
  ·by_cases h2:o=j
   ·subst h2;rw[if_neg h1,if_pos (by omega),if_pos rfl,if_pos (by omega)];simp
   ·rw[if_neg h1,if_neg (by omega),if_neg h2]
 rw[this];exact h'
def WM[i:Lc (pt r) L cs f][s:Wr cs o xs ds](h:T W (f ds) X):T W L (gp ⟨r,o,none⟩ xs X):=λw hs=>by
 obtain⟨k,hk,e⟩:=i.at_;obtain⟨s1,s2,s3⟩:=s.is;refine fX hs hk s2 s3 λw' h'=>h w' ?_;rw[e,<-s1];exact h'
def Ay{k:Nat}{K:VK}(h:T W L (ld ⟨r,k,none⟩ K)):T W L (ld (Addr.add ⟨r,0,none⟩ k) K):=by rw[dZ,ad1];exact h
def MZ{k:Nat}{K:VK}(h:T W L (ld ⟨r,o+k,none⟩ K)):T W L (ld (Addr.add ⟨r,o,none⟩ k) K):=by rw[dZ];exact h
def Qc{k:Nat}{K:LV->WK}(h:T W L (ai ⟨r,k,none⟩ n K)):T W L (ai (Addr.add ⟨r,0,none⟩ k) n K):=by rw[dZ,ad1];exact h
def TM{k:Nat}{K:LV->WK}(h:T W L (ai ⟨r,o+k,none⟩ n K)):T W L (ai (Addr.add ⟨r,o,none⟩ k) n K):=by rw[dZ];exact h
def TL{k:Nat}(h:T W L (st ⟨r,k,none⟩ v X)):T W L (st (Addr.add ⟨r,0,none⟩ k) v X):=by rw[dZ,ad1];exact h
def Jd{k:Nat}(h:T W L (st ⟨r,o+k,none⟩ v X)):T W L (st (Addr.add ⟨r,o,none⟩ k) v X):=by rw[dZ];exact h
def Qa{k:Nat}(h:T W L (gp ⟨r,k,none⟩ xs X)):T W L (gp (Addr.add ⟨r,0,none⟩ k) xs X):=by rw[dZ,ad1];exact h
def TO{k:Nat}(h:T W L (kp ⟨r,k,none⟩ xs X)):T W L (kp (Addr.add ⟨r,0,none⟩ k) xs X):=by rw[dZ,ad1];exact h
def tP[i:Lc (pt r) L cs f](hv:cs[o]?=some v)(h:T W L X):T W L (kp ⟨r,o,none⟩ [v] X):=λw hs=>
 let⟨_,hk,_⟩:=i.at_;gB hs hk hv (h w hs)
def M0[i:Lc (pt r) L cs f][s:Sub cs o n xs](h:T W L X):T W L (kp ⟨r,o,none⟩ xs X):=λw hs=>
 let⟨_,hk,_⟩:=i.at_;JR hs hk s.is.2 (h w hs)
def Jf{a:Addr}{K:LV->WK}(hg:xs.length=n/\∀j v,xs[j]?=some v->W.cell? (a.add j)=some v)(h:T W L (K xs)):T W L (ai a n K):=λw hs=>
 ⟨xs,hg.1,λj v hj=>by
  have:=hg.2 j v hj
  rw[hs.old (Ah this)];exact this,h w hs⟩
def Jh{zs ys:LV}{K:Bool->WK}(h1:kS zs xs=true)(h2:kS zs ys=true)(h:T W L (K (fq xs ys))):T W L (nF zs xs ys K):=λw hs=>⟨⟨h1,h2⟩,h w hs⟩
end
def nm(n:Nat):LV:=[.u ((n/18446744073709551616:Nat):Int),.u ((n%18446744073709551616:Nat):Int)]
instance{n:Nat}:Sub (nm n) 0 2 (nm n):=⟨rfl,λj v h=>by rw[ad1];exact h⟩
instance{cs:LV}{a b:Value}:Sub (a::b::cs) 0 2 [a,b]:=⟨rfl,λj v h=>by
 rw[ad1]
 match j with
 |0=>exact h
 |1=>exact h
 |j+2=>simp at h⟩
def Tg(a b:Nat):fq (nm a) (nm b)=decide (a=b):=by
 simp only[nm,fq,vO,Bool.and_true];by_cases h:a=b
 ·subst h;simp
 ·rw[decide_eq_false h,Bool.and_eq_false_iff];by_cases h1:a/18446744073709551616=b/18446744073709551616
  ·right
   have: ¬((a%18446744073709551616:Nat):Int)=((b%18446744073709551616:Nat):Int):=by omega
   simpa using this
  ·left
   have: ¬((a/18446744073709551616:Nat):Int)=((b/18446744073709551616:Nat):Int):=by omega
   simpa using this
def Ss{W:World}{L:LH}{a b:Nat}{K:Bool->WK}(h:T W L (K (decide (a=b)))):T W L (nF [.u 0,.u 0] (nm a) (nm b) K):=Jh rfl rfl (by rw[Tg];exact h)
def WR{W:World}{L:LH}{X:WK}{r o m:Nat}{cs:LV}{f:LV->LH}[i:Lc (pt r) L cs f][s:Sub cs o 2 (nm m)](h:T W L X):T W L (kp ⟨r,o,none⟩ (nm m) X):=M0 (n:=2) h
def WT{W:World}{L:LH}{a:Nat}{K:Bool->WK}(h:T W L (K (decide (a=0)))):T W L (nF [.u 0,.u 0] (nm a) [.u 0,.u 0] K):=Ss (b:=0) h
class Wk(L:LH)(X:WK)(L':outParam (LH))(Y:outParam WK):Prop where
 go:∀W,T W L' Y->T W L X
class WI(a b:Nat):Prop where
 is:a=b
instance{a:Nat}:WI a a:=⟨rfl⟩
class Eqv(a b:Value):Prop where
 is:a=b
instance{a:Value}:Eqv a a:=⟨rfl⟩
class Ln(cs:LV)(n:outParam Nat):Prop where
 is:cs.length=n
instance:Ln [] 0:=⟨rfl⟩
instance{a:Value}{l:LV}{n:Nat}[h:Ln l n]:Ln (a::l) (n+1):=⟨by rw[aee,h.is]⟩
instance{a b:LV}{n m:Nat}[h:Ln a n][g:Ln b m]:Ln (a++b) (n+m):=⟨by rw[ad0,h.is,g.is]⟩
instance{cs:LV}{k n:Nat}[h:Ln cs k][e:WI k n]:WI cs.length n:=⟨by rw[h.is,e.is]⟩
instance{n:Nat}:Ln (nm n) 2:=⟨rfl⟩
section
variable {L:LH} {X Y:WK} {r o n:Nat} {cs xs ds:LV} {f:LV->LH} {v:Value}
instance{k:IntKind}{K:Int->WK}{n:Int}:Wk L (xI k K (.int k n)) L (K n):=⟨λ_ h=>lA h⟩
instance{K:Bool->WK}{n:Bool}:Wk L (xB K (.bool n)) L (K n):=⟨λ_ h=>nK h⟩
instance{K:BA->WK}{n:BA}:Wk L (xS K (.string n)) L (K n):=⟨λ_ h=>P9 h⟩
instance{K:OA->WK}{n:OA}:Wk L (xP K (.p n)) L (K n):=⟨λ_ h=>vr h⟩
instance{K:OA->Nat->Nat->WK}{b:OA}{n c:Nat}:Wk L (xL K (.l b n c)) L (K b n c):=⟨λ_ h=>tN h⟩
instance:Wk L (x0 X (.tuple ⟨[]⟩)) L X:=⟨λ_ h=>wu h⟩
instance{K:Value->Value->WK}{a b:Value}:Wk L (x2 K (.tuple ⟨[a,b]⟩)) L (K a b):=⟨λ_ h=>P' h⟩
instance{K:Value->Value->Value->WK}{a b c:Value}:Wk L (x3 K (.tuple ⟨[a,b,c]⟩)) L (K a b c):=⟨λ_ h=>TK h⟩
instance:Wk L (a8 True X) L X:=⟨λ_ h=>M6 h⟩
instance{a b:Nat}[i:WI a b]:Wk L (a8 (a=b) X) L X:=⟨λ_ h=>TP i.is h⟩
instance{a b:Nat}{q:Prop}[i:WI a b]:Wk L (a8 (a=b/\q) X) L (a8 q X):=⟨λ_ h=>TQ i.is h⟩
instance:Wk L (br true X Y) L X:=⟨λ_ h=>h⟩
instance:Wk L (br false X Y) L Y:=⟨λ_ h=>h⟩
instance:Wk L (br (!true) X Y) L Y:=⟨λ_ h=>h⟩
instance:Wk L (br (!false) X Y) L X:=⟨λ_ h=>h⟩
instance{α:Type}{a:α}:Wk L (br (Option.isNone (some a)) X Y) L Y:=⟨λ_ h=>h⟩
instance{α:Type}{a:α}:Wk L (br (!(Option.isNone (some a))) X Y) L X:=⟨λ_ h=>h⟩
instance{a:Addr}{K:Addr->WK}:Wk L (nn (some a) K) L (K a):=⟨λ_ h=>h⟩
instance:Wk L (tick X) L X:=⟨λ_ h=>vt h⟩
instance{k:Nat}{K:VK}:Wk L (ld (Addr.add ⟨r,0,none⟩ k) K) L (ld ⟨r,k,none⟩ K):=⟨λ_ h=>Ay h⟩
instance{k:Nat}{K:LV->WK}:Wk L (ai (Addr.add ⟨r,0,none⟩ k) n K) L (ai ⟨r,k,none⟩ n K):=⟨λ_ h=>Qc h⟩
instance{k:Nat}:Wk L (st (Addr.add ⟨r,0,none⟩ k) v X) L (st ⟨r,k,none⟩ v X):=⟨λ_ h=>TL h⟩
instance{k:Nat}:Wk L (gp (Addr.add ⟨r,0,none⟩ k) xs X) L (gp ⟨r,k,none⟩ xs X):=⟨λ_ h=>Qa h⟩
instance{k:Nat}:Wk L (kp (Addr.add ⟨r,0,none⟩ k) xs X) L (kp ⟨r,k,none⟩ xs X):=⟨λ_ h=>TO h⟩
instance{K:LV->WK}[i:Lc (pt r) L cs f][s:Sub cs o n xs]:Wk L (ai ⟨r,o,none⟩ n K) L (K xs):=⟨λ_ h=>WN h⟩
instance[i:Lc (pt r) L cs f][s:Wr cs o [v] ds]:Wk L (st ⟨r,o,none⟩ v X) (f ds) X:=⟨λ_ h=>aae h⟩
instance[i:Lc (pt r) L cs f][s:Wr cs o xs ds]:Wk L (gp ⟨r,o,none⟩ xs X) (f ds) X:=⟨λ_ h=>WM h⟩
instance{m:Nat}[i:Lc (pt r) L cs f][s:Sub cs o 2 (nm m)]:Wk L (kp ⟨r,o,none⟩ (nm m) X) L X:=⟨λ_ h=>WR h⟩
instance{a b:Nat}{K:Bool->WK}:Wk L (nF [.u 0,.u 0] (nm a) (nm b) K) L (K (decide (a=b))):=⟨λ_ h=>Ss h⟩
instance{a:Nat}{K:Bool->WK}:Wk L (nF [.u 0,.u 0] (nm a) [.u 0,.u 0] K) L (K (decide (a=0))):=⟨λ_ h=>WT h⟩
end
class Gt(cs:LV)(o:Nat)(v:outParam Value):Prop where
 is:cs[o]?=some v
instance{a:Value}{l:LV}:Gt (a::l) 0 a:=⟨rfl⟩
instance{a v:Value}{l:LV}{o:Nat}[h:Gt l o v]:Gt (a::l) (o+1) v:=⟨by rw[aed];exact h.is⟩
instance{n:Nat}:Gt (nm n) 0 (.u (n/18446744073709551616:Nat)):=⟨rfl⟩
instance{n:Nat}:Gt (nm n) 1 (.u (n%18446744073709551616:Nat)):=⟨rfl⟩
class Lv(L:LH)(r o:Nat)(v:outParam Value):Prop where
 ld:∀{W:World} {K:VK},T W L (K v)->T W L (ld ⟨r,o,none⟩ K)
 kp:∀{W:World} {X:WK},T W L X->T W L (kp ⟨r,o,none⟩ [v] X)
instance{L:LH}{r o:Nat}{v:Value}{cs:LV}{f:LV->LH}[i:Lc (pt r) L cs f][g:Gt cs o v]:Lv L r o v:=⟨λh=>jM (i:=i) g.is h,λh=>tP (i:=i) g.is h⟩
section
variable {L:LH} {X A B:WK} {r o n:Nat} {v:Value} {K:VK} {cs:LV}
instance[i:Lv L r o v]:Wk L (ld ⟨r,o,none⟩ K) L (K v):=⟨λ_ h=>i.ld h⟩
instance{u:Value}[i:Lv L r o u][e:Eqv u v]:Wk L (kp ⟨r,o,none⟩ [v] X) L X:=⟨λ_ h=>by rw[<-e.is];exact i.kp h⟩
instance{K:LV->WK}{k:Nat}[h:Ln cs k][e:WI k n]:Wk L (xA n K (.agg ⟨cs⟩)) L (K cs):=⟨λ_ g=>xF (by rw[h.is,e.is]) g⟩
end
class Wb(X:WK)(A B:outParam WK):Prop where
 is:X=both A B
instance{A B:WK}:Wb (both A B) A B:=⟨rfl⟩
def wb{W:World}{L:LH}{X A B:WK}[i:Wb X A B](h:T W L A)(g:T W L B):T W L X:=by rw[i.is];exact TS h g
class Ws(L:LH)(X:WK)(Q:outParam (World->Prop)):Prop where
 go:∀W,Q W->T W L X
class Wp(L:LH)(X:WK)(Q:outParam (World->Prop)):Prop where
 go:∀W,Q W->T W L X
section
variable {L L':LH} {X Y:WK} {Q:World->Prop}
instance(priority:=low):Ws L X (λW=>T W L X):=⟨λ_ h=>h⟩
instance[j:Wp L X Q]:Ws L X Q:=⟨j.go⟩
instance[i:Wk L X L' Y][j:Ws L' Y Q]:Wp L X Q:=⟨λW h=>i.go W (j.go W h)⟩
instance{cs:LV}{F:Nat->WK}{Q:Nat->World->Prop}[j:∀r,Ws (pt r cs::L) (F r) (Q r)]:Wp L (mk cs F) (λW=>∀r,Q r W):=⟨λW h=>qL λr=>(j r).go W (h r)⟩
def ws{W:World}[i:Wp L X Q](h:Q W):T W L X:=i.go W h
def dX{W:World}{p:Prop}[Decidable p](h1:p->T W L X)(h2: ¬p->T W L Y):T W L (br (decide p) X Y):=bw (λh=>h1 (of_decide_eq_true h)) (λh=>h2 (of_decide_eq_false h))
end
class Has(R L:LH):Prop where
 sub:∀{W w:World},St W w L->St W w R
instance Has.refl{R:LH}:Has R R:=⟨λh=>h⟩
instance(priority:=low) Has.tail{R L:LH}{A:HP}[h:Has R L]:Has R (A::L):=⟨λhs=>h.sub hs.drop⟩
instance{R L:LH}[h:Has R L]:Has ([]++R) L:=⟨λhs=>h.sub hs⟩
def T.dp{W:World}{M L:LH}{X:WK}[i:Has M L](h:T W M X):T W L X:=λw hs=>h w (i.sub hs)
end Go.Up
namespace Go.Prog
open Go.Den
def pU(a:BA)(K:VK):WK:=tick (br (decide ((adU.wrap ((a.size:Int) -4))>=0)) (iX a none (some (adU.wrap ((a.size:Int) -4))) λb=>iX a (some (adU.wrap ((a.size:Int) -4))) none λc=>qC 0 b (xI .u32 λd=>nZ d (xS λe=>K (.bool (pk e c))))) (K (.bool false)))
def jO(h:BA)(i:Int)(K:VK):WK:=(λj=>∃(c:LV->World->Prop)(e:LV->World->Nat),c [.string h,.string .empty] j/\∀(a:BA)(b:BA)(d:World),c [.string a,.string b] d->(br (decide ((a.size:Int)>0)) (vc a 0 λk=>br ((k.toNat:Int)==i) (iX a (some 1) none λf=>(λg=>c [.string f,.string b] g/\e [.string f,.string b] g<e [.string a,.string b] d)) (K (.string a))) (K (.string a))) d)
def jt(h:BA)(i:Int)(K:VK):WK:=(λj=>∃(c:LV->World->Prop)(e:LV->World->Nat),c [.string h,.string .empty] j/\∀(a:BA)(b:BA)(d:World),c [.string a,.string b] d->(br (decide ((a.size:Int)>0)) (vc a (adU.wrap ((a.size:Int) -1)) λk=>br ((k.toNat:Int)==i) (iX a none (some (adU.wrap ((a.size:Int) -1))) λf=>(λg=>c [.string f,.string b] g/\e [.string f,.string b] g<e [.string a,.string b] d)) (K (.string a))) (K (.string a))) d)
def dY.j2(K:VK):WK:=no
def dY.j3(K:VK)(a b:BA)(c:Bool):WK:=br c (tick (vc a 0 λd=>vc a 0 λe=>jt b (d.toNat:Int) (xS λf=>jO f (e.toNat:Int) (xS λg=>K (.string g))))) (dY.j2 K)
def dY.j1(K:VK)(b a:BA)(c:Bool):WK:=br c (K (.string b)) (br ((a.size:Int)==1) (vc a 0 λd=>dY.j3 K a b (decide ((d.toNat:Int)<128))) (dY.j3 K a b false))
def dY(a b:BA)(K:VK):WK:=br (pk a (⟨#[]⟩:BA)) (dY.j1 K a b true) (dY.j1 K a b (pk b (⟨#[]⟩:BA)))
def iC.j1(K:VK)(a:Nat)(g:BA)(h:Bool):WK:=br h (a8 True (a8 (3=3) (gp (⟨a,0,none⟩:Addr) [.i 0,.i 0,.string .empty] (ai (⟨a,0,none⟩:Addr) 3 λj=>K (.tuple ⟨[.agg ⟨j⟩,.bool false]⟩))))) (lO g (xP λc=>ao c 8 (xI .i64 λk=>ao c 2 (xI .i64 λl=>a8 (1=1/\(1=1/\True)) (mk [.i 0,.i 0,.string .empty] λb=>a8 (3=3) (gp (⟨b,0,none⟩:Addr) [.i k,.i l,.string .empty] (ao c 2 (xI .i64 λe=>br (decide (e>104)) (a8 True (a8 (3=3) (gp (⟨a,0,none⟩:Addr) [.i 0,.i 0,.string .empty] (ai (⟨a,0,none⟩:Addr) 3 λm=>K (.tuple ⟨[.agg ⟨m⟩,.bool false]⟩))))) (cF c e (xS λn=>st ((⟨b,0,none⟩:Addr).add 2) (.string n) (cF c (adU.wrap (104-e)) (xS λo=>cF c 4 (xS λx=>tick (ld ((⟨b,0,none⟩:Addr).add 0) (xI .i64 λd=>ao c 8 (xI .i64 λp=>kp ((⟨b,0,none⟩:Addr).add 0) [.i d] (br (p !=d) (a8 True (a8 (3=3) (gp (⟨a,0,none⟩:Addr) [.i 0,.i 0,.string .empty] (ai (⟨a,0,none⟩:Addr) 3 λq=>K (.tuple ⟨[.agg ⟨q⟩,.bool false]⟩))))) (dY o (⟨#[0]⟩:BA) (xS λr=>kp ((⟨b,0,none⟩:Addr).add 0) [.i d] (br (!(pk r (⟨#[]⟩:BA))) (a8 True (a8 (3=3) (gp (⟨a,0,none⟩:Addr) [.i 0,.i 0,.string .empty] (ai (⟨a,0,none⟩:Addr) 3 λs=>K (.tuple ⟨[.agg ⟨s⟩,.bool false]⟩))))) (ai (⟨b,0,none⟩:Addr) 3 λt=>qp t (xB λu=>kp ((⟨b,0,none⟩:Addr).add 0) [.i d] (br (!u) (a8 True (a8 (3=3) (gp (⟨a,0,none⟩:Addr) [.i 0,.i 0,.string .empty] (ai (⟨a,0,none⟩:Addr) 3 λv=>K (.tuple ⟨[.agg ⟨v⟩,.bool false]⟩))))) (ai (⟨b,0,none⟩:Addr) 3 λf=>a8 (f.length=3) (gp (⟨a,0,none⟩:Addr) f (ai (⟨a,0,none⟩:Addr) 3 λw=>K (.tuple ⟨[.agg ⟨w⟩,.bool true]⟩)))))))))))))))))))))))))))
def iC(a:BA)(K:VK):WK:=mk [.i 0,.i 0,.string .empty] λb=>br ((a.size:Int)!=128) (iC.j1 K b a true) (iX a none (some 120) λc=>pU c (xB λd=>iC.j1 K b a (!d)))
def fk.j1(K:VK)(j:Int)(o:OA)(q r:Int)(s:Bool):WK:=br s (K (.tuple ⟨[.string .empty,.bool false]⟩)) (Xm Sp [.p none,.l none 0 0] λt=>iW j (xI .i64 λu=>(λv=>∃(g:LV->World->Prop)(k:LV->World->Nat),g [.string .empty,.bool false,.p (some (⟨t,0,none⟩:Addr)),.i u,.i 0] v/\∀(e:BA)(f:Bool)(b:Addr)(c:Int)(a:Int)(h:World),g [.string e,.bool f,.p (some b),.i c,.i a] h->(br (decide (a<c)) (ga o (adU.wrap (q+a)) (x2 λw x=>(xS λy=>(xI .i64 λJ=>iC y (x2 λz A=>(xA 3 λm=>(xB λB=>mk [.i 0,.i 0,.string .empty] λd=>a8 (m.length=3) (gp (⟨d,0,none⟩:Addr) m (br (!B) (K (.tuple ⟨[.string .empty,.bool false]⟩)) (ld ((⟨d,0,none⟩:Addr).add 0) (xI .i64 λC=>br (C !=r) (K (.tuple ⟨[.string .empty,.bool false]⟩)) (ld ((⟨d,0,none⟩:Addr).add 1) (xI .i64 λD=>br (D !=a) (K (.tuple ⟨[.string .empty,.bool false]⟩)) (ld ((⟨d,0,none⟩:Addr).add 2) (xS λE=>br ((E.size:Int)!=(min2 (adU.wrap (j-(adU.wrap (a* 104)))) 104)) (K (.tuple ⟨[.string .empty,.bool false]⟩)) (ld ((⟨d,0,none⟩:Addr).add 2) (xS λF=>eJ (some b) F (x2 λG H=>(xI .i64 λM=>(λO=>(λn=>g [.string e,.bool f,.p (some b),.i c,.i (adU.wrap (a+1))] n/\k [.string e,.bool f,.p (some b),.i c,.i (adU.wrap (a+1))] n<k [.string e,.bool f,.p (some b),.i c,.i a] h)) H) G)))))))))))) A) z)) x) w)) (fW (some b) (xS λI=>K (.tuple ⟨[.string I,.bool true]⟩)))) h)))
def fk(c:OA)(a e d b:Int)(K:VK):WK:=br (decide (a<0)) (fk.j1 K b c a d true) (dw c (xI .i64 λf=>br (decide (e>f)) (fk.j1 K b c a d true) (br (decide (a>e)) (fk.j1 K b c a d true) (br (decide (b<0)) (fk.j1 K b c a d true) (br (decide (b>425984)) (fk.j1 K b c a d true) (iW b (xI .i64 λg=>fk.j1 K b c a d (decide (g>(adU.wrap (e-a)))))))))))
def pQ.j1(K:VK)(a:Nat)(b:Int)(c:Bool):WK:=br c (a8 True (a8 (5=5) (gp (⟨a,0,none⟩:Addr) [.i 0,.i 0,.i 0,.i 0,.i 0] (ai (⟨a,0,none⟩:Addr) 5 λd=>K (.tuple ⟨[.agg ⟨d⟩,.i 1]⟩))))) (a8 ((5:Int)≠0) (a8 (1=1/\(1=1/\(1=1/\(1=1/\(1=1/\True))))) (a8 (5=5) (gp (⟨a,0,none⟩:Addr) [.i 2,.i (adU.wrap (2+(adU.wrap ((adU.wrap ((adU.wrap (b-2))* 2)).tdiv (5:Int))))),.i (adU.wrap ((adU.wrap ((adU.wrap (b-2))* 2)).tdiv (5:Int))),.i (adU.wrap (2+(adU.wrap (2* (adU.wrap ((adU.wrap ((adU.wrap (b-2))* 2)).tdiv (5:Int))))))),.i b] (ai (⟨a,0,none⟩:Addr) 5 λe=>K (.tuple ⟨[.agg ⟨e⟩,.i 0]⟩))))))
def pQ(a:Int)(K:VK):WK:=mk [.i 0,.i 0,.i 0,.i 0,.i 0] λb=>br (decide (a<12)) (pQ.j1 K b a true) (pQ.j1 K b a (decide (a>4096)))
def k9(b:LV)(c:Int)(K:VK):WK:=mk b λa=>ld ((⟨a,0,none⟩:Addr).add 0) (xI .i64 λd=>ld ((⟨a,0,none⟩:Addr).add 1) (xI .i64 λe=>a8 (1=1/\(1=1/\True)) (yU [.i d,.i e] 2 (bC .i64 .and c 1) (xI .i64 λf=>K (.i f)))))
def mQ(g:LV)(c:OA)(d h:Int)(j:BA)(K:VK):WK:=mk g λa=>br (c.isNone) (K (.i 2)) (tick (ai (⟨a,0,none⟩:Addr) 5 λk=>ai (⟨a,0,none⟩:Addr) 5 λe=>ld ((⟨a,0,none⟩:Addr).add 2) (xI .i64 λb=>k9 k d (xI .i64 λl=>kp ((⟨a,0,none⟩:Addr).add 2) [.i b] (kp (⟨a,0,none⟩:Addr) e (k9 e d (xI .i64 λm=>kp ((⟨a,0,none⟩:Addr).add 2) [.i b] (ij c l (adU.wrap (m+b)) h j (xI .i64 λf=>kp ((⟨a,0,none⟩:Addr).add 2) [.i b] (br (f !=0) (K (.i f)) (il c (xI .i64 λn=>K (.i n)))))))))))))
def mR(f:LV)(c:OA)(d g h:Int)(K:VK):WK:=mk f λa=>br (c.isNone) (K (.tuple ⟨[.string .empty,.bool false]⟩)) (tick (ai (⟨a,0,none⟩:Addr) 5 λj=>ai (⟨a,0,none⟩:Addr) 5 λe=>ld ((⟨a,0,none⟩:Addr).add 2) (xI .i64 λb=>k9 j d (xI .i64 λk=>kp ((⟨a,0,none⟩:Addr).add 2) [.i b] (kp (⟨a,0,none⟩:Addr) e (k9 e d (xI .i64 λl=>kp ((⟨a,0,none⟩:Addr).add 2) [.i b] (fk c k (adU.wrap (l+b)) g h (x2 λm n=>(xS λo=>(xB λp=>kp ((⟨a,0,none⟩:Addr).add 2) [.i b] (K (.tuple ⟨[.string o,.bool p]⟩))) n) m)))))))))
def mo(d:LV)(a:Int)(K:VK):WK:=mk d λb=>tick (br (decide (a>=0)) (ld ((⟨b,0,none⟩:Addr).add 2) (xI .i64 λc=>iW a (xI .i64 λe=>kp ((⟨b,0,none⟩:Addr).add 2) [.i c] (K (.bool (decide (e<=c))))))) (K (.bool false)))
def qA(b:LV)(K:VK):WK:=mk b λa=>ld ((⟨a,0,none⟩:Addr).add 0) (xI .i64 λc=>br (decide (c>=1)) (ld ((⟨a,0,none⟩:Addr).add 0) (xI .i64 λd=>br (decide (d<=1152921504606846976)) (ld ((⟨a,0,none⟩:Addr).add 1) (xI .i64 λe=>br (decide (e>=1)) (ld ((⟨a,0,none⟩:Addr).add 1) (xI .i64 λf=>br (decide (f<=1152921504606846976)) (ld ((⟨a,0,none⟩:Addr).add 2) (xI .i64 λg=>br (decide (g>=0)) (ld ((⟨a,0,none⟩:Addr).add 2) (xI .i64 λh=>br (decide (h<=425984)) (ld ((⟨a,0,none⟩:Addr).add 3) (xI .i64 λi=>br (decide (i>=0)) (ld ((⟨a,0,none⟩:Addr).add 3) (xI .i64 λj=>K (.bool (decide (j<=1152921504606846976))))) (K (.bool false)))) (K (.bool false)))) (K (.bool false)))) (K (.bool false)))) (K (.bool false)))) (K (.bool false)))) (K (.bool false)))
def q8(m:LV)(K:VK):WK:=mk m λc=>ai (⟨c,0,none⟩:Addr) 4 λn=>qA n (xB λo=>br (!o) (K (.tuple ⟨[.string .empty,.i 1]⟩)) (a8 True (mk [.l none 0 0] λq=>ld ((⟨c,0,none⟩:Addr).add 0) (xI .i64 λr=>ld ((⟨c,0,none⟩:Addr).add 1) (xI .i64 λs=>ld ((⟨c,0,none⟩:Addr).add 2) (xI .i64 λt=>ld ((⟨c,0,none⟩:Addr).add 3) (xI .i64 λu=>a8 (1=1/\(1=1/\(1=1/\(1=1/\True)))) ((λv=>∃(g:LV->World->Prop)(j:LV->World->Nat),g [.string .empty,.i 0,.p (some (⟨q,0,none⟩:Addr)),.agg ⟨[.i r,.i s,.i t,.i u]⟩,.i 0] v/\∀(e:BA)(f:Int)(a:Addr)(d:LV)(b:Int)(h:World),g [.string e,.i f,.p (some a),.agg ⟨d⟩,.i b] h->(br (decide (b<4)) (yU d 4 b (xI .i64 λw=>aC (some a) 8 w (x0 ((λk=>g [.string e,.i f,.p (some a),.agg ⟨d⟩,.i (adU.wrap (b+1))] k/\j [.string e,.i f,.p (some a),.agg ⟨d⟩,.i (adU.wrap (b+1))] k<j [.string e,.i f,.p (some a),.agg ⟨d⟩,.i b] h))))) (bW (some a) (xS λx=>K (.tuple ⟨[.string x,.i 0]⟩)))) h)))))))))
def qe(a:OA)(e:Int)(f:LV)(K:VK):WK:=mk f λb=>ai (⟨b,0,none⟩:Addr) 4 λg=>q8 g (x2 λh j=>(xS λk=>(xI .i64 λc=>br (a.isNone) (K (.i 2)) (br (c !=0) (K (.i c)) (ld ((⟨b,0,none⟩:Addr).add 0) (xI .i64 λl=>ld ((⟨b,0,none⟩:Addr).add 0) (xI .i64 λm=>ij a (bC .i64 .and l 1) (adU.wrap ((bC .i64 .and m 1)+1)) e k (xI .i64 λd=>br (d !=0) (K (.i d)) (il a (xI .i64 λn=>K (.i n))))))))) j) h)
def iB(a:OA)(K:VK):WK:=br (!(a.isNone)) (nn a λb=>ld (b.add 1) (xB λc=>br (!c) (nn a λd=>ld (d.add 0) (xS λe=>K (.bool (pk e (⟨#[]⟩:BA))))) (K (.bool false)))) (K (.bool false))
def s8(e:BA)(K:VK):WK:=mk [.i 0,.i 0,.i 0,.i 0] λa=>lO e (xP λb=>ao b 8 (xI .i64 λf=>ao b 8 (xI .i64 λg=>ao b 8 (xI .i64 λh=>ao b 8 (xI .i64 λj=>a8 (1=1/\(1=1/\(1=1/\(1=1/\True)))) (mk [.i 0,.i 0,.i 0,.i 0] λc=>a8 (4=4) (gp (⟨c,0,none⟩:Addr) [.i f,.i g,.i h,.i j] (iB b (xB λk=>br (!k) (a8 True (a8 (4=4) (gp (⟨a,0,none⟩:Addr) [.i 0,.i 0,.i 0,.i 0] (ai (⟨a,0,none⟩:Addr) 4 λl=>K (.tuple ⟨[.agg ⟨l⟩,.bool false]⟩))))) (ai (⟨c,0,none⟩:Addr) 4 λm=>qA m (xB λn=>br (!n) (a8 True (a8 (4=4) (gp (⟨a,0,none⟩:Addr) [.i 0,.i 0,.i 0,.i 0] (ai (⟨a,0,none⟩:Addr) 4 λo=>K (.tuple ⟨[.agg ⟨o⟩,.bool false]⟩))))) (ai (⟨c,0,none⟩:Addr) 4 λd=>a8 (d.length=4) (gp (⟨a,0,none⟩:Addr) d (ai (⟨a,0,none⟩:Addr) 4 λp=>K (.tuple ⟨[.agg ⟨p⟩,.bool true]⟩)))))))))))))))
def lJ.j1(K:VK)(a e:Nat)(f:Int)(g:Bool):WK:=br g (a8 True (a8 (4=4) (gp (⟨a,0,none⟩:Addr) [.i 0,.i 0,.i 0,.i 0] (ai (⟨a,0,none⟩:Addr) 4 λh=>K (.tuple ⟨[.agg ⟨h⟩,.bool false]⟩))))) (ld ((⟨e,0,none⟩:Addr).add 2) (xS λj=>s8 j (x2 λk l=>(xA 4 λc=>(xB λm=>mk [.i 0,.i 0,.i 0,.i 0] λb=>a8 (c.length=4) (gp (⟨b,0,none⟩:Addr) c (br (!m) (a8 True (a8 (4=4) (gp (⟨a,0,none⟩:Addr) [.i 0,.i 0,.i 0,.i 0] (ai (⟨a,0,none⟩:Addr) 4 λn=>K (.tuple ⟨[.agg ⟨n⟩,.bool false]⟩))))) (ld ((⟨b,0,none⟩:Addr).add 0) (xI .i64 λo=>br ((bC .i64 .and o 1)!=f) (a8 True (a8 (4=4) (gp (⟨a,0,none⟩:Addr) [.i 0,.i 0,.i 0,.i 0] (ai (⟨a,0,none⟩:Addr) 4 λp=>K (.tuple ⟨[.agg ⟨p⟩,.bool false]⟩))))) (ai (⟨b,0,none⟩:Addr) 4 λd=>a8 (d.length=4) (gp (⟨a,0,none⟩:Addr) d (ai (⟨a,0,none⟩:Addr) 4 λq=>K (.tuple ⟨[.agg ⟨q⟩,.bool true]⟩))))))))) l) k)))
def lJ(e:OA)(b:Int)(K:VK):WK:=mk [.i 0,.i 0,.i 0,.i 0] λc=>ga e b (x2 λf g=>(xS λh=>(xI .i64 λj=>iC h (x2 λk l=>(xA 3 λd=>(xB λm=>mk [.i 0,.i 0,.string .empty] λa=>a8 (d.length=3) (gp (⟨a,0,none⟩:Addr) d (br (j !=0) (lJ.j1 K c a b true) (br (!m) (lJ.j1 K c a b true) (ld ((⟨a,0,none⟩:Addr).add 1) (xI .i64 λn=>lJ.j1 K c a b (n !=0))))))) l) k)) g) f)
def nW(e:OA)(K:VK):WK:=mk [.i 0,.i 0,.i 0,.i 0] λa=>lJ e 0 (x2 λm n=>(xA 4 λf=>(xB λd=>mk [.i 0,.i 0,.i 0,.i 0] λb=>a8 (f.length=4) (gp (⟨b,0,none⟩:Addr) f (lJ e 1 (x2 λo p=>(xA 4 λg=>(xB λq=>mk [.i 0,.i 0,.i 0,.i 0] λc=>a8 (g.length=4) (gp (⟨c,0,none⟩:Addr) g (br q (br (!d) (ai (⟨c,0,none⟩:Addr) 4 λh=>a8 (h.length=4) (gp (⟨a,0,none⟩:Addr) h (ai (⟨a,0,none⟩:Addr) 4 λr=>K (.tuple ⟨[.agg ⟨r⟩,.bool true]⟩)))) (ld ((⟨c,0,none⟩:Addr).add 0) (xI .i64 λs=>ld ((⟨b,0,none⟩:Addr).add 0) (xI .i64 λt=>br (decide (s>t)) (ai (⟨c,0,none⟩:Addr) 4 λj=>a8 (j.length=4) (gp (⟨a,0,none⟩:Addr) j (ai (⟨a,0,none⟩:Addr) 4 λu=>K (.tuple ⟨[.agg ⟨u⟩,.bool true]⟩)))) (ai (⟨b,0,none⟩:Addr) 4 λk=>a8 (k.length=4) (gp (⟨a,0,none⟩:Addr) k (ai (⟨a,0,none⟩:Addr) 4 λv=>K (.tuple ⟨[.agg ⟨v⟩,.bool d]⟩)))))))) (ai (⟨b,0,none⟩:Addr) 4 λl=>a8 (l.length=4) (gp (⟨a,0,none⟩:Addr) l (ai (⟨a,0,none⟩:Addr) 4 λw=>K (.tuple ⟨[.agg ⟨w⟩,.bool d]⟩))))))) p) o)))) n) m)
def nQ(c:OA)(a b:Int)(K:VK):WK:=br (decide (a>=0)) (br (decide (a<b)) (dw c (xI .i64 λd=>K (.bool (decide (b<=d))))) (K (.bool false))) (K (.bool false))
def bt(a:OA)(K:VK):WK:=br (!(a.isNone)) (nn a λb=>ld (b.add 1) (xB λc=>K (.bool c))) (K (.bool false))
def bt.u:WP|[.pointer a],K=>bt a K|_,_=>no
def da.j2(K:VK)(c:Nat)(d:OA)(a e b:Int)(f:Bool):WK:=br f (K (.tuple ⟨[.string .empty,.i 0,.bool false]⟩)) (ld ((⟨c,0,none⟩:Addr).add 0) (xI .i64 λg=>fk d a e g (adU.wrap (12+b)) (x2 λh j=>(xS λk=>(xB λl=>br (!l) (K (.tuple ⟨[.string .empty,.i 0,.bool false]⟩)) (tick (iX k (some 12) none λm=>iW (adU.wrap (12+b)) (xI .i64 λn=>K (.tuple ⟨[.string m,.i (adU.wrap (a+n)),.bool true]⟩))))) j) h)))
def da.j1(K:VK)(b:OA)(c:Nat)(d:OA)(e f:Int)(g:Bool):WK:=br g (K (.tuple ⟨[.string .empty,.i 0,.bool false]⟩)) (ao b 4 (xI .i64 λa=>bt b (xB λh=>br h (da.j2 K c d e f a true) (da.j2 K c d e f a (decide (a>32768))))))
def da(c:OA)(b d g:Int)(K:VK):WK:=br (decide (b>=d)) (K (.tuple ⟨[.string .empty,.i 0,.bool false]⟩)) (ga c b (x2 λh j=>(xS λk=>(xI .i64 λr=>iC k (x2 λl m=>(xA 3 λf=>(xB λn=>mk [.i 0,.i 0,.string .empty] λa=>a8 (f.length=3) (gp (⟨a,0,none⟩:Addr) f (ld ((⟨a,0,none⟩:Addr).add 2) (xS λo=>lO o (xP λe=>ao e 8 (xI .i64 λp=>br (!n) (da.j1 K e a c b d true) (ld ((⟨a,0,none⟩:Addr).add 1) (xI .i64 λq=>br (q !=0) (da.j1 K e a c b d true) (da.j1 K e a c b d (p !=g)))))))))) m) l)) j) h))
def gT.j1(K:VK)(n:OA)(o q x:Int)(y:Bool):WK:=br y (K (.tuple ⟨[.p none,.l none 0 0,.i 1]⟩)) (a8 (1=1/\(1=1/\(1=1/\(1=1/\(1=1/\True))))) (mk [.p n,.i o,.i q,.i o,.i x,.bool false] λz=>(λA=>∃(k:LV->World->Prop)(r:LV->World->Nat),k [.p none,.l none 0 0,.i 0,.p (some (⟨z,0,none⟩:Addr)),.l none 0 0] A/\∀(b:OA)(c:OA)(d:Nat)(e:Nat)(f:Int)(a:Addr)(g:OA)(h:Nat)(j:Nat)(m:World),k [.p b,.l c d e,.i f,.p (some a),.l g h j] m->(tick (ld (a.add 3) (xI .i64 λB=>ld (a.add 4) (xI .i64 λs=>da n B q (adU.wrap (s+1)) (x3 λC D E=>(xS λF=>(xI .i64 λG=>(xB λH=>kp (a.add 4) [.i s] (br (!H) (K (.tuple ⟨[.p (some a),.l g h j,.i 0]⟩)) (a8 (1=1/\True) (mk [.string F] λI=>eW 1 16 [.string .empty] g h j (some ⟨I,0,none⟩) 1 λt u v=>ld (a.add 4) (xI .i64 λJ=>st (a.add 3) (.i G) (st (a.add 4) (.i (adU.wrap (J+1))) ((λw=>k [.p b,.l c d e,.i f,.p (some a),.l t u v] w/\r [.p b,.l c d e,.i f,.p (some a),.l t u v] w<r [.p b,.l c d e,.i f,.p (some a),.l g h j] m)))))))) E) D) C))))) m)))
def gT(a:OA)(c d b:Int)(K:VK):WK:=br (a.isNone) (K (.tuple ⟨[.p none,.l none 0 0,.i 2]⟩)) (nQ a c d (xB λe=>br (!e) (gT.j1 K a c d b true) (br (decide (b<0)) (gT.j1 K a c d b true) (gT.j1 K a c d b (decide (b>1152921504606846976))))))
def fN(a:OA)(b:Int)(K:VK):WK:=tick (br (!(a.isNone)) (br (decide (b>=0)) (br (decide (b<=32768)) (nn a λc=>ld (c.add 2) (xI .i64 λd=>nn a λe=>ld (e.add 3) (xI .i64 λf=>iW (adU.wrap (12+b)) (xI .i64 λg=>kp (e.add 3) [.i f] (kp (c.add 2) [.i d] (K (.bool (decide (g<=(adU.wrap (d-f))))))))))) (K (.bool false))) (K (.bool false))) (K (.bool false)))
def oY(c:Int)(b:BA)(K:VK):WK:=a8 True (mk [.l none 0 0] λa=>aC (some (⟨a,0,none⟩:Addr)) 8 c (x0 (aC (some (⟨a,0,none⟩:Addr)) 4 (b.size:Int) (x0 (iz (some (⟨a,0,none⟩:Addr)) b (x0 (bW (some (⟨a,0,none⟩:Addr)) (xS λd=>K (.string d)))))))))
def aV.j3(K:VK)(a:OA)(e:BA)(b:Int):WK:=br (b !=0) (nn a λf=>st (f.add 5) (.bool true) (K (.i b))) (tick (nn a λc=>ld (c.add 3) (xI .i64 λd=>iW (adU.wrap (12+(e.size:Int))) (xI .i64 λg=>kp (c.add 3) [.i d] (nn a λh=>st (h.add 3) (.i (adU.wrap (d+g))) (nn a λj=>ld (j.add 4) (xI .i64 λk=>nn a λl=>st (l.add 4) (.i (adU.wrap (k+1))) (K (.i 0)))))))))
def aV.j2(K:VK)(a:OA)(b:BA)(m:Int)(n:Bool):WK:=br n (K (.i 6)) (tick (nn a λe=>ld (e.add 0) (xP λf=>nn a λg=>ld (g.add 3) (xI .i64 λh=>nn a λj=>ld (j.add 2) (xI .i64 λk=>nn a λc=>ld (c.add 4) (xI .i64 λd=>oY (adU.wrap (d+1)) b (xS λo=>kp (c.add 4) [.i d] (kp (j.add 2) [.i k] (kp (g.add 3) [.i h] (kp (e.add 0) [.p f] (ij f h k m o (xI .i64 λl=>kp (c.add 4) [.i d] (br (l==0) (nn a λq=>ld (q.add 0) (xP λr=>il r (xI .i64 λs=>aV.j3 K a b s))) (aV.j3 K a b l))))))))))))))
def aV.j1(K:VK)(a:OA)(b:BA)(c:Int)(d:Bool):WK:=br d (K (.i 1)) (fN a (b.size:Int) (xB λe=>br (!e) (aV.j2 K a b c true) (nn a λf=>ld (f.add 4) (xI .i64 λg=>aV.j2 K a b c (decide (g>=1152921504606846976))))))
def aV(a:OA)(b:Int)(c:BA)(K:VK):WK:=br (a.isNone) (K (.i 2)) (nn a λd=>ld (d.add 5) (xB λe=>br e (K (.i 9)) (br (decide (b<1)) (aV.j1 K a c b true) (aV.j1 K a c b (decide (b>1152921504606846976))))))
def gr(a:OA)(K:VK):WK:=br (a.isNone) (K (.i 0)) (nn a λb=>ld (b.add 4) (xI .i64 λc=>K (.i c)))
def fO(a:OA)(K:VK):WK:=br (!(a.isNone)) (nn a λb=>ld (b.add 1) (xI .i64 λc=>nn a λd=>st (d.add 3) (.i c) (K (.tuple ⟨[]⟩)))) (K (.tuple ⟨[]⟩))
end Go.Prog
namespace Go.Prog.N
abbrev kK:Nat:=71
abbrev cY:Nat:=235
abbrev cE:Nat:=262
abbrev cw:Nat:=283
abbrev cu:Nat:=285
abbrev cX:Nat:=234
abbrev cr:Nat:=240
abbrev cm:Nat:=192
abbrev cj:Nat:=278
abbrev dN:Nat:=135
abbrev iF:Nat:=136
abbrev dz:Nat:=138
abbrev fK:Nat:=180
abbrev uo:Nat:=2
abbrev py:Nat:=0
abbrev kr:Nat:=139
abbrev Iq:Nat:=193
abbrev cZ:Nat:=270
abbrev ao:Nat:=69
abbrev bm:Nat:=74
abbrev bt:Nat:=115
abbrev aY:Nat:=221
abbrev aX:Nat:=289
abbrev bq:Nat:=223
abbrev bp:Nat:=291
abbrev jJ:Nat:=73
end Go.Prog.N
