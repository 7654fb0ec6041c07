/- Part of the proof: see the last text. -/
import Derived.OrdersHeld
import Derived.Calls
import Derived.KernelRfl
import Derived.Laws.Append
import Derived.Laws.CopyRow
import Derived.Tactics
import Derived.WalkKit
import Derived.Laws.BytesString
import Derived.Laws.MakeOwn
import Derived.Below
import Derived.Lib.Builder
import Derived.Lib.UnsafeStr
set_option linter.all false
set_option maxRecDepth 100000
set_option synthInstance.maxSize 100000
open Array renaming replicate→gw,toList_map→AB,ext'→rv
open Bool renaming false_eq_true→cn,and_eq_true→cY,false_ne_true→py,true_and→dX
open ByteArray renaming empty→xG
open Go.IntKind renaming i64→ag
open Int renaming toNat_natCast→aq
open List renaming range→mD,map_cons→fq,getElem?_eq_getElem→ao,getElem?_eq_none→gj,append_assoc→aI,nil_append→dm,cons_append→fE,take_append_drop→u2,foldl_cons→FB,drop_drop→Jv,getElem?_eq_some_iff→ar,getElem?_map→dC,getElem?_range→lz,getElem?_cons_zero→oz,drop_zero→oC,mem_cons_of_mem→qN,getElem?_cons_succ→aW,getElem?_toArray→u3,mem_cons→gK,mem_of_find?_eq_some→jW,Perm→bA,length_cons→bw,getElem?_append_left→bM,set_set→gW,getElem?_append_right→jo,ext_getElem?→jq,set_cons_succ→kf,getElem?_drop→px,length_append→ak,length_drop→aV,append_nil→bN,map_append→cS,mem_map→dK,drop_of_length_le→eH,map_congr_left→od,map_map→y6,replicate→aM,drop_eq_getElem_cons→jX,take_length→bF,length_map→cu,mem_of_getElem?→iF,take_succ_eq_append_getElem→nD,getElem?_set→cA,length_nil→dH,length_singleton→Hy
open Nat renaming beq→fe,eq_of_beq_eq_true→df,zero_le→aL,add_zero→iL,le_of_ble_eq_true→aH,le_refl→aC,zero_add→az,mul_le_mul_right→fS,add_mul→lq,reduceAdd→ae,reduceMul→af,mul_one→mQ
open Option renaming some→bj,map→so
namespace Go
abbrev OA:=Option Addr
abbrev LV:=List Value
abbrev BA:=ByteArray
abbrev Value.i(n:Int):Value:=.int .i64 n
abbrev Value.u(n:Int):Value:=.int .u64 n
abbrev Value.p(a:OA):Value:=.pointer a
abbrev Value.l(a:OA)(n c:Nat):Value:=.slice a n c
abbrev Value.b(x:Bool):Value:=.bool x
abbrev Value.s(x:BA):Value:=.string x
abbrev Value.g(x:LV):Value:=.agg ⟨x⟩
abbrev Value.t(x:LV):Value:=.tuple ⟨x⟩
abbrev ai(r:Nat):OA:=some ⟨r,0,none⟩
def ah:=@if_neg
def aj:=@if_pos
def ay:=@decide_eq_false
def aA:=@decide_eq_true
def aR:=@absurd
def bG:=@of_decide_eq_true
def cD:=@of_decide_eq_false
def mz:=@bne_iff_ne
end Go
namespace Go.Den
abbrev Env:=List (Nat×Value)
abbrev WK:=World->Prop
abbrev VK:=Value->World->Prop
abbrev WP:=LV->VK->WK
abbrev CQ:=List (Nat×WP)
def lk:Env->Nat->Option Value
 |[],_=>none
 |(s,v)::e,t=>bif fe s t then some v else lk e t
def no:WK:=λ_=>False
def ev(e:Env):Operand->Option Value
 | .tmp t=>lk e t
 | .const v=>some v
 | .global g=>some (.pointer (some ⟨g,0,none⟩))
 | .func f=>some (.func (.func f) #[] #[])
def Mi(e:Env):List Operand->Option (LV)
 |[]=>some []
 |x::xs=>match ev e x with
  |some v=>match Mi e xs with
   |some vs=>some (v::vs)
   |none=>none
  |none=>none
def aY(p:Prop)(K:WK):WK:=λw=>p/\K w
def br(b:Bool)(X Y:WK):WK:=match b with|true=>X|false=>Y
def nn(p:OA)(K:Addr->WK):WK:=match p with|some a=>K a|none=>no
def xI(k:IntKind)(K:Int->WK):VK:=λv w=>∃n,v=.int k n/\K n w
def xB(K:Bool->WK):VK:=λv w=>∃b,v=.bool b/\K b w
def xS(K:BA->WK):VK:=λv w=>∃s,v=.string s/\K s w
def xP(K:OA->WK):VK:=λv w=>∃p,v=.pointer p/\K p w
def xL(K:OA->Nat->Nat->WK):VK:=λv w=>∃b n c,v=.slice b n c/\K b n c w
def xA(n:Nat)(K:LV->WK):VK:=λv w=>∃cs,v=.agg ⟨cs⟩/\cs.length=n/\K cs w
def Hz(z:Value)(K:VK):VK:=match z with
 | .int k _=>xI k λn=>K (.int k n)
 | .bool _=>xB λb=>K (.bool b)
 | .string _=>xS λs=>K (.string s)
 | .pointer _=>xP λp=>K (.pointer p)
 | .slice _ _ _=>xL λb n c=>K (.slice b n c)
 | .agg zs=>xA zs.size λcs=>K (.agg ⟨cs⟩)
 |_=>K
def x0(K:WK):VK:=λv w=>v=.tuple ⟨[]⟩/\K w
def x2(K:Value->Value->WK):VK:=λv w=>∃a b,v=.tuple ⟨[a,b]⟩/\K a b w
def x3(K:Value->Value->Value->WK):VK:=λv w=>∃a b c,v=.tuple ⟨[a,b,c]⟩/\K a b c w
def xT(z:Value)(K:VK):VK:=match z with
 | .tuple zs=>match zs.toList with
   |[]=>x0 (K (.tuple ⟨[]⟩))
   |[y,z]=>x2 λa b=>Hz y (λa=>Hz z (λb=>K (.tuple ⟨[a,b]⟩)) b) a
   |[x,y,z]=>x3 λa b c=>Hz x (λa=>Hz y (λb=>Hz z (λc=>K (.tuple ⟨[a,b,c]⟩)) c) b) a
   |_=>λ_=>no
 |z=>Hz z K
def ab8(z:Value)(f:Value->Prop):Prop:=match z with
 | .int k _=>∀n,f (.int k n)
 | .bool _=>∀b,f (.bool b)
 | .string _=>∀s,f (.string s)
 | .pointer (some _)=>∀a,f (.pointer (some a))
 | .pointer none=>∀p,f (.pointer p)
 | .slice _ _ _=>∀b n c,f (.slice b n c)
 | .agg _=>∀cs:LV,f (.agg ⟨cs⟩)
 |_=>∀v,f v
def CB:LV->(LV->Prop)->Prop
 |[],f=>f []
 |z::zs,f=>ab8 z λv=>CB zs λvs=>f (v::vs)
def fits(z v:Value):Bool:=match z,v with
 | .int k _,.int k' _=>decide (k=k')
 | .bool _,.bool _=>true
 | .string _,.string _=>true
 | .pointer none,.pointer _=>true
 | .pointer (some _),.pointer (some _)=>true
 | .slice _ _ _,.slice _ _ _=>true
 | .agg _,.agg _=>true
 | .int _ _,_=>false
 | .bool _,_=>false
 | .string _,_=>false
 | .pointer _,_=>false
 | .slice _ _ _,_=>false
 | .agg _,_=>false
 |_,_=>true
def ld(a:Addr)(K:VK):WK:=λw=>∃v,w.cell? a=some v/\K v w
def uQ(w:World)(a:Addr)(cs:LV):Prop:=∀j v,cs[j]?=some v->w.cell? (a.add j)=some v
def aD(a:Addr)(n:Nat)(K:LV->WK):WK:=λw=>∃cs,cs.length=n/\uQ w a cs/\K cs w
def st(a:Addr)(v:Value)(K:WK):WK:=λw=>v.oneCell'=true/\(∃o,w.cell? a=some o)/\w.frozen? a=false/\K (w.setCell a v)
def vk(w:World)(a:Addr)(i:Nat):LV->World
 |[]=>w
 |v::r=>vk (w.setCell (a.add i) v) a (i+1) r
def sW(w:World)(a:Addr)(i:Nat)(cs:LV):Prop:=
 (∀v∈cs,v.oneCell'=true)/\∀j,j<cs.length->(∃o,w.cell? (a.add (i+j))=some o)/\w.frozen? (a.add (i+j))=false
def fH(a:Addr)(cs:LV)(K:WK):WK:=λw=>sW w a 0 cs/\K (vk w a 0 cs)
def mk(cs:LV)(K:Nat->WK):WK:=λw=>∀t,K w.heap.size (w.alloc (.cells ⟨cs⟩ t))
def Zc(t:TypeId)(cs:LV)(K:Nat->WK):WK:=λw=>K w.heap.size (w.alloc (.cells ⟨cs⟩ t))
def tick(K:WK):WK:=λw=>K w.drew
def Hg(T:CQ)(f:Nat):WP:=match T with
 |[]=>λ_ _=>no
 |(g,p)::r=>bif fe g f then p else Hg r f
def gp(b:OA)(len:Nat)(i:Int)(size:Nat)(K:Addr->WK):WK:=
 λw=>∃a,b=some a/\(0<=i/\i<len)/\K (a.add (i.toNat* size)) w
def ss(s:BA)(i:Int)(K:UInt8->WK):WK:=λw=>∃c,(0<=i/\s.data.toList[i.toNat]?=some c)/\K c w
def yF(cs:LV)(len:Nat)(i:Int)(K:VK):WK:=λw=>∃v,(0<=i/\i<len/\cs[i.toNat]?=some v)/\K v w
def rF(b:OA)(cap l size:Nat):OA:=if cap=l then b else b.map (·.add (l* size))
def oW(b:OA)(len cap size:Nat)(lo hi:Option Int)(K:OA->Nat->Nat->WK):WK:=
 match hi with
 |none=>match lo with
  |none=>K (rF b cap 0 size) len cap
  |some l=>aY (0<=l/\l<=len) (K (rF b cap l.toNat size) (len-l.toNat) (cap-l.toNat))
 |some h=>aY (0<=h/\h<=cap) (match lo with
  |none=>K (rF b cap 0 size) h.toNat cap
  |some l=>aY (0<=l/\l<=h) (K (rF b cap l.toNat size) (h.toNat-l.toNat) (cap-l.toNat)))
def iW(s:BA)(lo hi:Option Int)(K:BA->WK):WK:=
 match hi with
 |none=>match lo with
  |none=>K (s.extract 0 s.size)
  |some l=>aY (0<=l/\l<=s.size) (K (s.extract l.toNat s.size))
 |some h=>aY (0<=h/\h<=s.size) (match lo with
  |none=>K (s.extract 0 h.toNat)
  |some l=>aY (0<=l/\l<=h) (K (s.extract l.toNat h.toNat)))
def Src(w:World)(n size:Nat)(b:OA)(cs:LV):Prop:=
 cs.length=n* size/\∀a,b=some a->uQ w a cs
def strCells(s:BA):LV:=s.data.toList.map λc=>.int .u8 c.toNat
def S5(size bytes:Nat)(zero:LV)(b:OA)(len cap n:Nat)(new:LV)(K:OA->Nat->Nat->WK):WK:=λw=>
 (len+n<=cap->(∀a,b=some a->sW w (a.add (len* size)) 0 new/\K b (len+n) cap (vk w (a.add (len* size)) 0 new))/\(b=none->K b (len+n) cap w))/\
 (cap<len+n->(len+n)* bytes<=140737488355328/\(len+n:Nat)<=(9223372036854775807:Int)/\∃old,Src w len size b old/\(b=none->len=0)/\
  ∀c' t,len+n<=c'->K (some ⟨w.heap.size,0,none⟩) (len+n) c' (w.drew.alloc (.cells ((old++new).toArray++Builtin.zeroCells ⟨zero⟩ (c'-(len+n))) t)))
def jO(size bytes:Nat)(zero:LV)(b:OA)(len cap:Nat)(b':OA)(n:Nat)(K:OA->Nat->Nat->WK):WK:=λw=>
 ∃new,Src w n size b' new/\(b'=none->n=0)/\S5 size bytes zero b len cap n new K w
def CA(b:OA)(len cap:Nat)(s:BA)(K:OA->Nat->Nat->WK):WK:=
 S5 1 1 [.int .u8 0] b len cap s.size (strCells s) K
def bytesOf(cs:LV):List UInt8:=cs.map λ| .int _ n=>UInt8.ofNat n.toNat|_=>0
def Np(b:OA)(n:Nat)(K:BA->WK):WK:=λw=>
 (b=none->K .empty w)/\∀a,b=some a->∃cs,cs.length=n/\uQ w a cs/\(∀v∈cs,∃m,v=.int .u8 m)/\K ⟨⟨bytesOf cs⟩⟩ w
def s2b(s:BA)(K:Nat->Nat->WK):WK:=λw=>
 ∀c t,s.size<=c->K w.heap.size c ((w.drew.alloc (.cells ((strCells s).toArray++gw (c-s.size) (.int .u8 0)) t)).freeze ⟨w.heap.size,c,none⟩ 1)
def Gx(bytes:Nat)(zero:LV)(len cap:Int)(K:OA->Nat->Nat->WK):WK:=λw=>
 (0<=len/\len<=cap/\cap<=9223372036854775807/\cap* bytes<=281474976710656)/\
 ∀t,K (some ⟨w.heap.size,0,none⟩) len.toNat cap.toNat (w.alloc (.cells (Builtin.zeroCells ⟨zero⟩ cap.toNat) t))
def PS(size:Nat)(b:OA)(len:Nat)(b':OA)(RT:Nat)(K:Nat->WK):WK:=λw=>
 ∃new,Src w (min RT len) size b' new/\(b'=none->min RT len=0)/\(b=none->K (min RT len) w)/\∀a,b=some a->sW w a 0 new/\K (min RT len) (vk w a 0 new)
def SQ(cs:LV)(b:OA)(len:Nat)(K:WK):WK:=λw=>
 (b=none\/len=0->K w)/\∀a,b=some a->len≠0->sW w a 0 cs/\K (vk w a 0 cs)
def tL(T:CQ)(v:Value)(args:LV)(K:VK):WK:=match v with
 | .func (.func g) first cap=>Hg T g (first.toList++args++cap.toList) K
 |_=>no
def TT(v:Value)(K:VK):WK:=match v with
 | .pointer p=>nn p λa=>K (.pointer (some a))
 | .func (.func g) first cap=>K (.func (.func g) first cap)
 |_=>no
end Go.Den
namespace Go.Den
def ch(k:IntKind)(op:BinOp)(x y:Int):Int:=
 match op with
 | .and=>k.wrap ((BitVec.ofInt k.bits x&&&BitVec.ofInt k.bits y).toNat)
 | .or=>k.wrap ((BitVec.ofInt k.bits x|||BitVec.ofInt k.bits y).toNat)
 | .xor=>k.wrap ((BitVec.ofInt k.bits x^^^BitVec.ofInt k.bits y).toNat)
 |_=>k.wrap ((BitVec.ofInt k.bits x&&&~~~BitVec.ofInt k.bits y).toNat)
def shl(k:IntKind)(x y:Int):Int:=k.wrap (x* 2^(min y.toNat k.bits))
def shr(k:IntKind)(x y:Int):Int:=x.fdiv (2^(min y.toNat k.bits))
def B7(op:BinOp)(k:IntKind)(x y:Int)(K:VK):WK:=
 match op with
 | .add=>K (.int k (k.wrap (x+y)))
 | .sub=>K (.int k (k.wrap (x-y)))
 | .mul=>K (.int k (k.wrap (x* y)))
 | .quo=>aY (y≠0) (K (.int k (k.wrap (x.tdiv y))))
 | .rem=>aY (y≠0) (K (.int k (x.tmod y)))
 | .and=>K (.int k (ch k .and x y))
 | .or=>K (.int k (ch k .or x y))
 | .xor=>K (.int k (ch k .xor x y))
 | .andNot=>K (.int k (ch k .andNot x y))
 | .eql=>K (.bool (x==y))
 | .neq=>K (.bool (x !=y))
 | .lss=>K (.bool (decide (x<y)))
 | .leq=>K (.bool (decide (x<=y)))
 | .gtr=>K (.bool (decide (x>y)))
 | .geq=>K (.bool (decide (x>=y)))
 | .shl=>aY (0<=y) (K (.int k (shl k x y)))
 | .shr=>aY (0<=y) (K (.int k (shr k x y)))
def me(x y:BA):Bool:=x.toList==y.toList
def H2(op:BinOp)(x y:BA)(K:VK):WK:=
 match op with
 | .add=>aY (((x.size+y.size:Nat):Int)<=9223372036854775807) (K (.string (x++y)))
 | .eql=>K (.bool (me x y))
 | .neq=>K (.bool (!me x y))
 |_=>no
abbrev Qw:=List (Nat×LV)
def D4:Qw->Nat->Option (LV)
 |[],_=>none
 |(t,z)::r,u=>bif fe t u then some z else D4 r u
def lJ:LV->LV->Bool
 |[],[]=>true
 |z::zs,v::vs=>fits z v&&lJ zs vs
 |_,_=>false
def zL(x y:Value):Bool:=match x,y with
 | .int _ a,.int _ b=>a==b
 | .bool a,.bool b=>a==b
 | .string a,.string b=>me a b
 |_,_=>false
def gG:LV->LV->Bool
 |[],[]=>true
 |x::xs,y::ys=>zL x y&&gG xs ys
 |_,_=>false
def lK(zs xs ys:LV)(K:Bool->WK):WK:=λw=>(lJ zs xs=true/\lJ zs ys=true)/\K (gG xs ys) w
def Jg(P:Program)(E:Qw)(op:BinOp)(t:TypeId)(x y:Value)(K:VK):WK:=
 match x,y with
 | .int k a,.int k' b=>match op with
   | .shl=>B7 .shl k a b K
   | .shr=>B7 .shr k a b K
   |op=>bif decide (k=k') then B7 op k a b K else no
 | .string a,.string b=>H2 op a b K
 | .bool a,.bool b=>match P.underlying t,op with
   |some .bool,.eql=>K (.bool (a==b))
   |some .bool,.neq=>K (.bool (!(a==b)))
   |_,_=>no
 | .pointer p,.pointer none=>match P.underlying t,op with
   |some (.pointer _),.eql=>K (.bool p.isNone)
   |some (.pointer _),.neq=>K (.bool (!p.isNone))
   |_,_=>no
 | .slice p _ _,.slice none _ _=>match P.underlying t,op with
   |some (.slice _),.eql=>K (.bool p.isNone)
   |some (.slice _),.neq=>K (.bool (!p.isNone))
   |_,_=>no
 | .agg xs,.agg ys=>match D4 E t,op with
   |some zs,.eql=>lK zs xs.toList ys.toList λb=>K (.bool b)
   |some zs,.neq=>lK zs xs.toList ys.toList λb=>K (.bool (!b))
   |_,_=>no
 |_,_=>no
def NJ(op:UnOp)(x:Value)(K:VK):WK:=
 match op,x with
 | .not,.bool b=>K (.bool (!b))
 | .neg,.int k n=>K (.int k (k.wrap (0-n)))
 | .xor,.int k n=>K (.int k (ch k .xor (if k.signed then-1 else k.max) n))
 |_,_=>no
def A7(P:Program)(s d:TypeId)(x:Value)(K:VK):WK:=
 match P.underlying s with
 |none=>no
 |some sd=>match P.underlying d,x with
  |some (.int k),.int _ n=>K (.int k (k.wrap n))
  |some .string,.string _=>K x
  |some (.slice e),.string b=>match P.underlying e with
   |some (.int .u8)=>s2b b λr c=>K (.slice (some ⟨r,0,none⟩) b.size c)
   |_=>no
  |some .string,.slice p n _=>match sd with
   | .slice e=>match P.underlying e with
     |some (.int .u8)=>Np p n λb=>K (.string b)
     |_=>no
   |_=>no
  |_,_=>no
def zeroOf(P:Program)(t:TypeId):Option Value:=
 match P.info? t with
 |some i=>i.zero
 |none=>none
def dJ(v:Value):LV:=match v with| .agg cs=>cs.toList|v=>[v]
def qI(d:TypeDesc):Bool:=match d with| .struct _| .array _ _=>true|_=>false
def yo(r:Nat):Value:=.pointer (some ⟨r,0,none⟩)
def Du(P:Program)(t:TypeId):Bool:=
 match P.underlying t with
 |some (.struct fs)=>match fs.toList with
  |[f,g]=>match P.underlying f.type,P.underlying g.type with
   |some (.pointer e),some (.slice _)=>fe e t
   |_,_=>false
  |_=>false
 |_=>false
def yD(P:Program)(t:TypeId)(a:Addr)(K:LV->VK):WK:=
 match P.underlying t,P.info? t with
 |some d,some i=>bif qI d then aD a i.size λcs=>K cs (.agg ⟨cs⟩) else
                  match i.zero with
                  |some z=>ld a (Hz z λv=>K [v] v)
                  |none=>no
 |_,_=>no
def Bz(P:Program)(t:TypeId)(a:Addr)(v:Value)(K:VK):WK:=
 match P.info? t with
 |some i=>match v with
  | .agg cs=>aY (cs.toList.length=i.size) (fH a cs.toList (K undef))
  |v=>bif fe i.size 1 then st a v (K undef) else no
 |none=>no
def rS(zero:LV):List (Nat×Nat)->Nat->Nat->List (Nat×LV)->Option (LV×Prop)
 |[],at_,_,ps=>bif fe at_ zero.length then(match ps with|[]=>some ([],True)|_=>none) else none
 |(off,n)::fs,at_,i,ps=>bif fe off at_ then
                         (match ps with
                         |[]=>match rS zero fs (at_+n) (i+1) [] with
                          |some (r,p)=>some ((zero.drop off).take n++r,p)
                          |none=>none
                         |(j,cs)::ps'=>bif fe i j then
                            match rS zero fs (at_+n) (i+1) ps' with
                            |some (r,p)=>some (cs++r,cs.length=n/\p)
                            |none=>none
                          else match rS zero fs (at_+n) (i+1) ps with
                           |some (r,p)=>some ((zero.drop off).take n++r,p)
                           |none=>none)
  else none
def uj(P:Program):List Field->Option (List (Nat×Nat))
 |[]=>some []
 |f::fs=>match P.info? f.type,uj P fs with
  |some i,some r=>some ((f.offset,i.size)::r)
  |_,_=>none
def Cv(P:Program)(t:TypeId)(parts:List (Nat×Value))(K:VK):WK:=
 match zeroOf P t,P.underlying t with
 |some (.agg z),some (.struct fs)=>match uj P fs.toList with
  |some pl=>match rS z.toList pl 0 0 (parts.map λp=>(p.1,dJ p.2)) with
   |some (cs,p)=>aY p (K (.agg ⟨cs⟩))
   |none=>no
  |none=>no
 |some (.agg z),some (.array n e)=>match P.info? e with
  |some i=>match rS z.toList ((mD n).map λj=>(j* i.size,i.size)) 0 0 (parts.map λp=>(p.1,dJ p.2)) with
   |some (cs,p)=>aY p (K (.agg ⟨cs⟩))
   |none=>no
  |none=>no
 |_,_=>no
def xv(P:Program)(t:TypeId)(len:Nat)(parts:List (Nat×Value))(K:VK):WK:=
 match P.underlying t with
 |some (.slice e)=>match P.info? e with
  |some i=>match i.zero with
   |some z=>bif Nat.ble (len* i.size) 16777216&&Nat.blt 0 i.size&&fe (dJ z).length i.size then
             match rS (Builtin.zeroCells ⟨dJ z⟩ len).toList ((mD len).map λj=>(j* i.size,i.size)) 0 0 (parts.map λp=>(p.1,dJ p.2)) with
             |some (cs,p)=>aY p (mk cs λr=>K (.slice (some ⟨r,0,none⟩) len len))
             |none=>no
    else no
   |none=>no
  |none=>no
 |_=>no
def E0(e:Env):List (Nat×Operand)->Option (List (Nat×Value))
 |[]=>some []
 |(i,x)::r=>match ev e x,E0 e r with
  |some v,some vs=>some ((i,v)::vs)
  |_,_=>none
def QW(e:Env):Option Operand->Option (Option Int)
 |none=>some none
 |some x=>match ev e x with
  |some (.int _ n)=>some (some n)
  |_=>none
def BC(P:Program)(t:TypeId)(x:Value)(lo hi:Option Int)(K:VK):WK:=
 match P.underlying t,x with
 |some .string,.string s=>iW s lo hi λr=>K (.string r)
 |some (.slice e),.slice b n c=>match P.info? e with
  |some i=>oW b n c i.size lo hi λb n c=>K (.slice b n c)
  |none=>no
 |some (.array n e),.pointer (some a)=>match P.info? e with
  |some i=>oW (some a) n n i.size lo hi λb n c=>K (.slice b n c)
  |none=>no
 |_,_=>no
def H'(P:Program)(t:TypeId)(a:Addr)(l h m:Int)(K:VK):WK:=
 match P.underlying t with
 |some (.array n e)=>match P.info? e with
  |some i=>aY ((0<=m/\m<=n)/\(0<=h/\h<=m.toNat)/\(0<=l/\l<=h.toNat)) (K (.slice (rF (some a) m.toNat l.toNat i.size) (h.toNat-l.toNat) (m.toNat-l.toNat)))
  |none=>no
 |_=>no
def ux(P:Program)(t:TypeId)(x i:Value)(K:VK):WK:=
 match P.underlying t,x,i with
 |some (.slice e),.slice b n _,.int _ j=>match P.info? e with
  |some i=>gp b n j i.size λa=>K (.pointer (some a))
  |none=>no
 |some (.array n e),.pointer (some a),.int _ j=>match P.info? e with
  |some i=>aY (0<=j/\j<n) (K (.pointer (some (a.add (j.toNat* i.size)))))
  |none=>no
 |_,_,_=>no
def B8(P:Program)(t:TypeId)(x i:Value)(K:VK):WK:=
 match P.underlying t,x,i with
 |some .string,.string s,.int _ j=>ss s j λc=>K (.int .u8 c.toNat)
 |some (.array n e),.agg cs,.int _ j=>match P.underlying e,P.info? e with
  |some d,some i=>bif qI d then aY (0<=j/\j<n) (K (.agg ⟨(cs.toList.drop (j.toNat* i.size)).take i.size⟩))
   else bif fe i.size 1 then match i.zero with
    |some z=>yF cs.toList n j (Hz z K)
    |none=>no
   else no
  |_,_=>no
 |_,_,_=>no
def Ck(P:Program)(t:TypeId)(x:Value)(f:Nat)(K:VK):WK:=
 match P.underlying t,x with
 |some (.struct fs),.agg cs=>match fs[f]? with
  |some fl=>match P.underlying fl.type,P.info? fl.type with
   |some d,some i=>bif qI d then K (.agg ⟨(cs.toList.drop fl.offset).take i.size⟩)
    else match i.zero with
     |some z=>λw=>∃v,cs.toList[fl.offset]?=some v/\Hz z K v w
     |none=>no
   |_,_=>no
  |none=>no
 |_,_=>no
def uD(P:Program)(t:TypeId)(x:Value)(f:Nat)(K:VK):WK:=
 match P.underlying t,x with
 |some (.struct fs),.pointer (some a)=>match fs[f]? with
  |some fl=>match P.info? fl.type with
   |some i=>bif fe i.size 0 then no else K (.pointer (some (a.add fl.offset)))
   |none=>no
  |none=>no
 |_,_=>no
def B3(P:Program)(t:TypeId)(x:Value)(K:VK):WK:=
 match P.underlying t,x with
 |some .string,.string s=>K (.i s.size)
 |some (.slice _),.slice _ n _=>K (.i n)
 |some (.array n _),_=>K (.i n)
 |_,_=>no
def min2(x y:Int):Int:=if y<x then y else x
def max2(x y:Int):Int:=if y>x then y else x
def nQ:Int->LV->Option Int
 |x,[]=>some x
 |x,.int _ y::r=>nQ (min2 x y) r
 |_,_=>none
def B1:Int->LV->Option Int
 |x,[]=>some x
 |x,.int _ y::r=>B1 (max2 x y) r
 |_,_=>none
def Jm(P:Program)(t u:TypeId)(s x:Value)(K:VK):WK:=
 match P.underlying t,s with
 |some (.slice e),.slice b n c=>match P.info? e with
  |some i=>match i.zero with
   |some z=>match P.underlying u,x with
    |some (.slice _),.slice b' m _=>jO i.size i.bytes (dJ z) b n c b' m λb n c=>K (.slice b n c)
    |some .string,.string y=>bif fe i.size 1&&fe i.bytes 1 then match z with
                              | .int .u8 0=>CA b n c y λb n c=>K (.slice b n c)
                              |_=>no
     else no
    |_,_=>no
   |none=>no
  |none=>no
 |_,_=>no
def G8(b:OA)(len:Nat)(s:BA)(K:Nat->WK):WK:=λw=>
 (b=none->K (min s.size len) w)/\∀a,b=some a->sW w a 0 (strCells (s.extract 0 (min s.size len)))/\K (min s.size len) (vk w a 0 (strCells (s.extract 0 (min s.size len))))
def ade(b:Nat)(K:Int->WK):WK:=λw=>∃es c,w.heap[b]?=some (.map es c)/\K es.size w
def Zf(v:Value)(K:Int->WK):WK:=match v with| .map (some b)=>ade b K|_=>no
def mkM(K:Nat->WK):WK:=λw=>K w.heap.size (w.alloc (.map #[] 0))
def Ze(P:Program)(t:TypeId)(m k:Value)(K:VK):WK:=λw=>∃v,(Instr.lookup t m k false).run P w=.ok v w/\K v w
def ac9(P:Program)(t:TypeId)(m k v:Value)(K:WK):WK:=λw=>∃w',(Instr.mapUpdate t m k v).run P w=.ok () w'/\K w'
def xu(P:Program)(b:Builtin)(ts:List TypeId)(args:LV)(K:VK):WK:=
 match b,ts,args with
 | .len,t::_,[x]=>match P.underlying t with
   |some (.map _ _)=>Zf x λn=>K (.i n)
   |_=>B3 P t x K
 | .min,_,.int k x::r=>match nQ x r with|some m=>K (.int k m)|none=>no
 | .max,_,.int k x::r=>match B1 x r with|some m=>K (.int k m)|none=>no
 | .append,[t,u],[s,x]=>Jm P t u s x K
 | .copy,t::_,[.slice b n _,.slice b' m _]=>match P.underlying t with
   |some (.slice e)=>match P.info? e with
    |some i=>PS i.size b n b' m λk=>K (.i k)
    |none=>no
   |_=>no
 | .copy,t::_,[.slice b n _,.string s]=>match P.underlying t with
   |some (.slice e)=>match P.info? e with
    |some i=>bif fe i.size 1 then G8 b n s λk=>K (.i k) else no
    |none=>no
   |_=>no
 | .clear,t::_,[.slice b n _]=>match P.underlying t with
   |some (.slice e)=>match P.info? e with
    |some i=>match i.zero with
     |some z=>SQ (Builtin.zeroCells ⟨dJ z⟩ n).toList b n (K (.tuple ⟨[]⟩))
     |none=>no
    |none=>no
   |_=>no
 | .cap,t::_,[.slice _ _ c]=>match P.underlying t with
   |some (.slice _)=>K (.i c)
   |_=>no
 |_,_,_=>no
def yW(P:Program)(T:CQ)(e:Env)(c:Call)(ty:TypeId)(K:VK):WK:=
 match Mi e c.args.toList with
 |none=>no
 |some args=>match c.callee with
  | .builtin b=>xu P b c.argTypes.toList args K
  | .value f=>match ev e f with
    |some v=>match zeroOf P ty with
     |some z=>tL T v args (xT z K)
     |none=>no
    |none=>no
  | .invoke _ _=>no
def vz(P:Program)(T:CQ)(E:Qw)(e:Env)(op:Op)(ty:TypeId)(K:VK):WK:=
 match op with
 | .move x| .assign x=>match ev e x with|some v=>K v|none=>no
 | .pick c x y=>match ev e c with
   |some (.bool b)=>br b (match ev e x with|some v=>K v|none=>no) (match ev e y with|some v=>K v|none=>no)
   |_=>no
 | .alloc t=>match zeroOf P t with
   |some z=>bif Du P t then Zc t (dJ z) λr=>K (yo r) else mk (dJ z) λr=>K (yo r)
   |none=>no
 | .box _ x=>match ev e x with
   |some v=>mk (dJ v) λr=>K (yo r)
   |none=>no
 | .build t ps=>match E0 e ps.toList with
   |some l=>Cv P t l K
   |none=>no
 | .buildSlice t n ps=>match E0 e ps.toList with
   |some l=>xv P t n l K
   |none=>no
 | .load t x=>match ev e x with
   |some (.pointer (some a))=>yD P t a λ_=>K
   |_=>no
 | .store t x y=>match ev e x,ev e y with
   |some (.pointer (some a)),some v=>Bz P t a v K
   |_,_=>no
 | .nilCheck x=>match ev e x with
   |some v=>TT v K
   |none=>no
 | .binOp op t x y _=>match ev e x,ev e y with
   |some a,some b=>Jg P E op t a b K
   |_,_=>no
 | .unOp op _ x=>match ev e x with
   |some a=>NJ op a K
   |none=>no
 | .convert s d x=>match ev e x with
   |some a=>A7 P s d a K
   |none=>no
 | .makeFunc fn first cap=>match Mi e first.toList,Mi e cap.toList with
   |some f,some c=>K (.func fn ⟨f⟩ ⟨c⟩)
   |_,_=>no
 | .makeSlice t n c=>match P.underlying t,ev e n,ev e c with
   |some (.slice el),some (.int _ n),some (.int _ c)=>match P.info? el with
    |some i=>match i.zero with
     |some z=>bif Nat.blt 0 i.size&&fe (dJ z).length i.size then Gx i.bytes (dJ z) n c λb n c=>K (.slice b n c) else no
     |none=>no
    |none=>no
   |_,_,_=>no
 | .slice t x lo hi none=>match ev e x,QW e lo,QW e hi with
   |some v,some l,some h=>BC P t v l h K
   |_,_,_=>no
 | .slice t x (some lo) (some hi) (some mx)=>match ev e x,ev e lo,ev e hi,ev e mx with
   |some (.pointer (some a)),some (.int _ l),some (.int _ h),some (.int _ m)=>H' P t a l h m K
   |_,_,_,_=>no
 | .fieldAddr t x f=>match ev e x with
   |some v=>uD P t v f K
   |none=>no
 | .field t x f=>match ev e x with
   |some v=>Ck P t v f K
   |none=>no
 | .indexAddr t x i=>match ev e x,ev e i with
   |some v,some j=>ux P t v j K
   |_,_=>no
 | .index t x i=>match ev e x,ev e i with
   |some v,some j=>B8 P t v j K
   |_,_=>no
 | .extract x i=>match ev e x with
   |some (.tuple vs)=>match vs[i]? with
    |some v=>K v
    |none=>no
   |_=>no
 | .call c=>yW P T e c ty K
 | .makeMap _ none=>mkM λr=>K (.map (some r))
 | .lookup t m k false=>match ev e m,ev e k,P.underlying t with
   |some a,some b,some (.map _ el)=>match zeroOf P el with
    |some z=>Ze P t a b (Hz z K)
    |none=>no
   |_,_,_=>no
 | .mapUpdate t m k v=>match ev e m,ev e k,ev e v with
   |some a,some b,some c=>ac9 P t a b c (K undef)
   |_,_,_=>no
 |_=>no
def cover:Env->Nat->Bool
 |C,d=>match lk C d with|none=>true|some _=>false
def pt(n:Nat)(C:Env)(e:Env)(d:Option Tmp)(v:Value)(K:Env->WK):WK:=
 match d with
 |none=>K e
 |some d=>bif Nat.blt d n&&cover C d then K ((d,v)::e) else no
structure Fn where
 P:Program
 T:CQ
 E:Qw
 n:Nat
 C:Env
 E':List (Nat×List (Nat×Value))
def Mc(ops:Array Oper)(j:Nat):Option Tmp:=match ops[j]? with|some o=>o.dst|none=>none
def Ji(a b:Bool):Bool:=match a,b with|true,true=>true|false,false=>true|_,_=>false
def TQ(F:Fn)(ops:Array Oper)(o:Oper)(K:Env->WK)(e:Env):WK:=
 match o.guard with
 |none=>vz F.P F.T F.E e o.op o.type λv=>pt F.n F.C e o.dst v K
 |some (j,want)=>match Mc ops j with
  |none=>no
  |some d=>match lk e d with
   |some (.bool b)=>
    br b (bif Ji true want then vz F.P F.T F.E ((d,.bool true)::e) o.op o.type λv=>pt F.n F.C ((d,.bool true)::e) o.dst v K else pt F.n F.C ((d,.bool true)::e) o.dst undef K)
     (bif Ji false want then vz F.P F.T F.E ((d,.bool false)::e) o.op o.type λv=>pt F.n F.C ((d,.bool false)::e) o.dst v K else pt F.n F.C ((d,.bool false)::e) o.dst undef K)
   |some (.tuple _)=>pt F.n F.C e o.dst undef K
   |_=>no
def vm(F:Fn)(ops:Array Oper):List Oper->(Env->WK)->Env->WK
 |[],K,e=>K e
 |o::r,K,e=>TQ F ops o (vm F ops r K) e
def cls(P:Program)(op:Op):Nat:=
 match op with
 | .move _| .assign _| .pick _ _ _| .nilCheck _| .binOp .. | .unOp .. | .makeFunc .. | .slice .. | .fieldAddr .. | .field .. | .indexAddr .. | .index .. | .extract .. | .build .. =>0
 | .convert _ d _=>match P.underlying d with|some (.int _)=>0|_=>2
 | .load _ _=>1
 | .call c=>match c.callee with
   | .builtin .len=>(match c.argTypes.toList with
     |t::_=>(match P.underlying t with|some (.map _ _)=>2|_=>0)
     |[]=>0)
   | .builtin .min=>0| .builtin .max=>0
   |_=>2
 |_=>2
abbrev AO:=List (Nat×Addr×LV)
def pQ:AO->WK->WK
 |[],K=>K
 |(_,a,cs)::r,K=>λw=>uQ w a cs/\pQ r K w
def waits(o:Oper)(i:Nat):Bool:=o.after.any λed=>Region.binds .any ed&&fe ed.on i
def kp(a:Addr)(cs:LV)(K:WK):WK:=λw=>uQ w a cs/\K w
def both(X Y:WK):WK:=λw=>X w/\Y w
def stays(o:Oper)(S:AO):AO:=S.filter λp=> !waits o p.1
def XQ:List Nat->(Nat->WK)->WK
 |[],_=>λ_=>True
 |[i],f=>f i
 |i::r,f=>λw=>f i w/\XQ r f w
def quietAt(P:Program)(ops:Array Oper)(i:Nat):Bool:=match ops[i]? with|some o=>Nat.blt (cls P o.op) 2|none=>false
def Rw(F:Fn)(e:Env)(i:Nat)(o:Oper)(S:AO)(K:AO->VK):WK:=
 match o.op with
 | .load t x=>match ev e x with
   |some (.pointer (some a))=>yD F.P t a λcs v=>K ((i,a,cs)::S) v
   |_=>no
 |op=>vz F.P F.T F.E e op o.type (K S)
def guarded(ops:Array Oper)(o:Oper)(e:Env)(run skip:Env->WK):WK:=
 match o.guard with
 |none=>run e
 |some (j,want)=>match Mc ops j with
  |none=>no
  |some d=>match lk e d with
   |some (.bool b)=>br b (bif Ji true want then run ((d,.bool true)::e) else skip ((d,.bool true)::e))
                     (bif Ji false want then run ((d,.bool false)::e) else skip ((d,.bool false)::e))
   |some (.tuple _)=>skip e
   |_=>no
def sA(F:Fn)(ops:Array Oper)(K:Env->WK):Nat->Array Bool->AO->Env->WK
 |0,listed,_,e=>match Region.ready .any ops listed with|[]=>K e|_=>no
 |f+1,listed,S,e=>match Region.ready .any ops listed with
  |[]=>K e
  |r::rs=>match(r::rs).find? (quietAt F.P ops) with
   |some i=>match ops[i]? with
    |some o=>bif Region.free .any ops listed i then
              guarded ops o e (λe=>Rw F e i o S λS v=>pt F.n F.C e o.dst v (sA F ops K f (listed.setIfInBounds i true) S))
               (λe=>pt F.n F.C e o.dst undef (sA F ops K f (listed.setIfInBounds i true) S))
     else no
    |none=>no
   |none=>XQ (r::rs) λi=>match ops[i]? with
    |some o=>guarded ops o e (λe=>vz F.P F.T F.E e o.op o.type λv=>pQ (stays o S) (pt F.n F.C e o.dst v (sA F ops K f (listed.setIfInBounds i true) (stays o S))))
              (λe=>pt F.n F.C e o.dst undef (sA F ops K f (listed.setIfInBounds i true) S))
    |none=>no
def key:Code->Nat
 | .region i _ _=>i
 | .seq a _=>key a
 | .block _ c=>key c
 | .cond _ a _=>key a
 | .loop c=>key c
 | .scope c=>key c
 |_=>0
def KP:List (Nat×List (Nat×Value))->Nat->Option (List (Nat×Value))
 |[],_=>none
 |(k,l)::r,i=>bif fe k i then some l else KP r i
def tp(e:Env):List (Nat×Value)->Option (LV)
 |[]=>some []
 |(t,z)::r=>match lk e t with
  |some v=>bif fits z v then(match tp e r with|some vs=>some (v::vs)|none=>none) else none
  |none=>none
def xH:List (Nat×Value)->LV->Env->Env
 |(t,_)::l,v::vs,C=>(t,v)::xH l vs C
 |_,_,C=>C
def Ld(K:Env->WK)(Q:Exit->Env->WK):Exit->Env->WK
 | .normal,e=>K e
 | .exit i,e=>Q (.exit i) e
 | .goto l,e=>Q (.goto l) e
 | .ret,e=>Q .ret e
 | .panic c,e=>Q (.panic c) e
 | .outgrown,e=>Q .outgrown e
def Jf(i:Nat)(Q:Exit->Env->WK):Exit->Env->WK
 | .exit j,e=>bif fe j i then Q .normal e else Q (.exit j) e
 | .normal,e=>Q .normal e
 | .goto l,e=>Q (.goto l) e
 | .ret,e=>Q .ret e
 | .panic c,e=>Q (.panic c) e
 | .outgrown,e=>Q .outgrown e
def O6(l:List (Nat×Value))(I:LV->World->Prop)(μ:LV->World->Nat)(m:Nat)(e:Env):WK:=
 match tp e l with
 |some vs=>λw=>I vs w/\μ vs w<m
 |none=>no
def den(F:Fn):Code->(Exit->Env->WK)->Env->WK
 | .skip,Q,e=>Q .normal e
 | .ret,Q,e=>Q .ret e
 | .exit i,Q,e=>Q (.exit i) e
 | .seq x y,Q,e=>den F x (Ld (den F y Q) Q) e
 | .cond c x y,Q,e=>match ev e c with
   |some (.bool b)=>br b (den F x Q e) (den F y Q e)
   |_=>no
 | .block i c,Q,e=>den F c (Jf i Q) e
 | .loop c,Q,e=>match KP F.E' (key c) with
   |some l=>match tp e l with
    |some vs=>λw=>∃(I:LV->World->Prop)(μ:LV->World->Nat),I vs w/\
               CB (l.map (·.2)) λus=>∀w,I us w->den F c (Ld (O6 l I μ (μ us w)) Q) (xH l us F.C) w
    |none=>no
   |none=>no
 | .region _ ops draw,Q,e=>bif draw then
                            (bif Region.noSelect ops then tick (sA F ops (Q .normal) ops.size (gw ops.size false) [] e) else no)
   else vm F ops ops.toList (Q .normal) e
 |_,_,_=>no
structure Sub(n:Nat)(e:Env)(a:Act):Prop where
 size:a.tmps.size=n
 defers:a.defers=[]
 get:∀t v,lk e t=some v->a.tmps[t]?=some v
def Sub.eval{n:Nat}{e:Env}{a:Act}(h:Sub n e a){x:Operand}{v:Value}(hx:ev e x=some v):a.eval x=v:=by
 cases x with
 |tmp t=>simp only[ev] at hx;simp[Act.eval,h.get t v hx]
 |const u=>simp only[ev] at hx;cases hx;rfl
 |global g=>simp only[ev] at hx;cases hx;rfl
 |func f=>simp only[ev] at hx;cases hx;rfl
def Sub.Ug{n:Nat}{e:Env}{a:Act}(h:Sub n e a):∀{xs:List Operand} {vs:LV},Mi e xs=some vs->xs.map a.eval=vs
 |[],vs,hx=>by simp only[Mi] at hx;cases hx;rfl
 |x::xs,vs,hx=>by
  simp only[Mi] at hx;cases h1:ev e x with
  |none=>simp[h1] at hx
  |some v=>
   cases h2:Mi e xs with
   |none=>simp[h1,h2] at hx
   |some us=>
    simp only[h1,h2,bj.injEq] at hx;subst hx;simp only[fq,h.eval h1,h.Ug h2]
def Sub.EZ{n:Nat}{e:Env}{a:Act}(h:Sub n e a){xs:Array Operand}{vs:LV}(hx:Mi e xs.toList=some vs):xs.map a.eval=⟨vs⟩:=by
 have:=h.Ug hx;rw[<-AB] at this;cases hh:xs.map a.eval
 simp only[hh] at this;subst this
 rfl
def Sub.IU{n:Nat}{e:Env}{a:Act}(h:Sub n e a):∀{xs:List (Nat×Operand)} {vs:List (Nat×Value)},E0 e xs=some vs->xs.map (λp=>(p.1,a.eval p.2))=vs
 |[],vs,hx=>by simp only[E0] at hx;cases hx;rfl
 |(i,x)::xs,vs,hx=>by
  simp only[E0] at hx;cases h1:ev e x with
  |none=>simp[h1] at hx
  |some v=>
   cases h2:E0 e xs with
   |none=>simp[h1,h2] at hx
   |some us=>
    simp only[h1,h2,bj.injEq] at hx;subst hx;simp only[fq,h.eval h1,h.IU h2]
def uq(e:Env)(d t:Nat)(v:Value):lk ((d,v)::e) t=if d=t then some v else lk e t:=by
 simp only[lk];by_cases h:d=t
 ·subst h;simp
 ·have h':d.beq t=false:=by
   cases hh:d.beq t with
   |true=>exact aR (df hh) h
   |false=>rfl
  simp[h,h']
def Sub.put{n:Nat}{e:Env}{a:Act}(h:Sub n e a){d:Nat}(hd:d<n)(v:Value):Sub n ((d,v)::e) (a.put (some d) v):=by
 refine⟨by simp[Act.put,h.size],by simp[Act.put,h.defers],λt u ht=>?_⟩;rw[uq] at ht;simp only[Act.put];split at ht
 ·rename_i ZU;subst ZU;cases ht
  rw[Array.getElem?_setIfInBounds_self];simp[h.size,hd]
 ·rename_i ZU;rw[Array.getElem?_setIfInBounds_ne ZU];exact h.get t u ht
def Sub.again{n:Nat}{e:Env}{a:Act}(h:Sub n e a){d:Nat}{v:Value}(hd:lk e d=some v):Sub n ((d,v)::e) a:=by
 refine⟨h.size,h.defers,λt u ht=>?_⟩;rw[uq] at ht;split at ht
 ·rename_i ZU;subst ZU;cases ht;exact h.get _ _ hd
 ·exact h.get t u ht
def To(P:Program)(s:Sem Next)(w:World)(K:VK):Prop:=
 (∃v w',s.run P w=.ok (.value v) w'/\K v w')\/(∃w',s.run P w=.ok .skip w'/\K undef w')\/
 (∃g args w',s.run P w=.ok (.enter g args) w'/\Calls P g args w' λe YF=>∃v,e=.returned v/\K v YF)
def Pure(P:Program)(s:Sem Next)(w:World)(K:VK):Prop:=∃v,(∀w',s.run P w'=.ok (.value v) w')/\K v w
def Pure.toX{P:Program}{s:Sem Next}{w:World}{K:VK}(h:Pure P s w K):To P s w K:=
 let⟨v,hr,hk⟩:=h;.inl ⟨v,w,hr w,hk⟩
def PV(P:Program)(s:Sem Value)(w:World)(K:VK):Prop:=∃v,(∀w',s.run P w'=.ok v w')/\K v w
def PV.pure{P:Program}{s:Sem Value}{w:World}{K:VK}(h:PV P s w K):Pure P (do pure (.value (<-s))) w K:=by
 obtain⟨v,hr,hk⟩:=h;exact⟨v,λw'=>by simp[hr w'],hk⟩
section
variable {P:Program} {K:VK} {w:World}
def dR{t:TypeId}{d:TypeDesc}(h:P.underlying t=some d)(w:World):(underlying t).run P w=.ok d w:=by simp[underlying,h]
def zB{op:BinOp}{k:IntKind}{x y:Int}{t:TypeId}(h:B7 op k x y K w):PV P (binOp op t (.int k x) (.int k y)) w K:=by
 cases op<;>simp only[B7,aY] at h<;>first
  |exact⟨_,λw'=>by simp[binOp,Op.intArith,Op.intBits,Op.intCmp,ch];done,h⟩
  |(obtain⟨h1,h2⟩:=h
    refine⟨_,λw'=>?_,h2⟩
    simp only[binOp,Op.intDiv,Op.shift,shl,shr,ne_eq,not_true,if_false]
    rw[ah (by omega)]
    rfl)
def K4{op:BinOp}{x y:BA}{t:TypeId}(h:H2 op x y K w):PV P (binOp op t (.string x) (.string y)) w K:=by
 cases op<;>simp only[H2,aY,no] at h
 case add=>
  refine⟨_,λw'=>?_,h.2⟩;have h1: ¬(((x.size+y.size:Nat):Int)>ag.max):=by
   have:=h.1;have e:ag.max=9223372036854775807:=by decide
   rw[e];omega
  simp only[binOp,Op.stringOp];rw[ah h1]
  rfl
 case eql=>exact⟨_,λw'=>rfl,h⟩
 case neq=>exact⟨_,λw'=>rfl,h⟩
def IV{op:BinOp}{t:TypeId}{x y:Operand}{a b:Value}(hn:(a=.nilIface->False))(hg:∀xs ys,a=.agg xs->b=.agg ys->P.eqGuardType P.depth t=false)(w:World):
 (eqGuard op t x y a b).run P w=.ok () w:=by
 cases op<;>try rfl
 all_goals
  cases a<;>cases b<;>first
   |rfl
   |exact(hn rfl).elim
   |(rename_i xs ys
     have:=hg _ _ rfl rfl
     simp[eqGuard,this])
def Ii{t d:TypeId}(h:P.underlying t=some (.pointer d))(p:OA)(w:World):(Op.equal t (.pointer p) (.pointer none)).run P w=.ok p.isNone w:=by
 show(Op.equalIn (9999+1) t _ _).run P w=_;unfold Op.equalIn;cases p<;>simp[underlying,h]
def Ll{t d:TypeId}(h:P.underlying t=some (.slice d))(p:OA)(n c m e:Nat)(w:World):(Op.equal t (.slice p n c) (.slice none m e)).run P w=.ok p.isNone w:=by
 show(Op.equalIn (9999+1) t _ _).run P w=_;unfold Op.equalIn;cases p<;>simp[underlying,h]
def F6{t:TypeId}(h:P.underlying t=some .bool)(a b:Bool)(w:World):(Op.equal t (.bool a) (.bool b)).run P w=.ok (a==b) w:=by
 show(Op.equalIn (9999+1) t _ _).run P w=_;unfold Op.equalIn;simp[underlying,h]
def pH(P:Program)(E:Qw):Prop:=∀t zs,D4 E t=some zs->P.eqGuardType P.depth t=false/\
 ∀xs ys,lJ zs xs=true->lJ zs ys=true->∀w:World,(Op.equal t (.agg ⟨xs⟩) (.agg ⟨ys⟩)).run P w=.ok (gG xs ys) w
def MH{E:Qw}(hE:pH P E){op:BinOp}{t:TypeId}{x y:Operand}{a b:Value}(h:Jg P E op t a b K w):PV P (do eqGuard op t x y a b;binOp op t a b) w K:=by
 have main:(a=.nilIface->False)->(∀xs ys,a=.agg xs->b=.agg ys->P.eqGuardType P.depth t=false)->PV P (binOp op t a b) w K->PV P (do eqGuard op t x y a b;binOp op t a b) w K:=by
  intro h1 h2 ⟨v,hv,hk⟩;refine⟨v,λw'=>?_,hk⟩;rw[Sem.run_bind,IV h1 h2];exact hv w'
 unfold Jg at h;split at h
 ·apply main (by simp) (by simp);split at h
  ·exact zB (t:=t) h
  ·exact zB (t:=t) h
  ·rename_i k a k' b op' _ _;by_cases hk:k=k'
   ·subst hk;simp only[decide_true,cond_true] at h;exact zB h
   ·simp[hk,no] at h
 ·exact main (by simp) (by simp) (K4 h)
 ·apply main (by simp) (by simp);cases hu:P.underlying t with
  |none=>simp only[hu,no] at h
  |some d=>
   cases d<;>cases op<;>simp only[hu,no] at h<;>exact⟨_,λw'=>by simp[binOp,F6 hu],h⟩
 ·apply main (by simp) (by simp);cases hu:P.underlying t with
  |none=>simp only[hu,no] at h
  |some d=>
   cases d<;>cases op<;>simp only[hu,no] at h<;>exact⟨_,λw'=>by simp[binOp,Ii hu],h⟩
 ·apply main (by simp) (by simp);cases hu:P.underlying t with
  |none=>simp only[hu,no] at h
  |some d=>
   cases d<;>cases op<;>simp only[hu,no] at h<;>exact⟨_,λw'=>by simp[binOp,Ll hu],h⟩
 ·rename_i xs ys;cases he:D4 E t with
  |none=>simp only[he,no] at h
  |some zs=>
   obtain⟨hg,heq⟩:=hE t zs he;cases op<;>simp only[he,no] at h<;>(
    obtain⟨⟨h1,h2⟩,hk⟩:=h
    refine main (by simp) (λ_ _ _ _=>hg) ⟨_,λw'=>?_,hk⟩
    have hr:=heq _ _ h1 h2 w'
    rw[show ∀z:Array Value,(⟨z.toList⟩:Array Value)=z from λz=>rfl,show ∀z:Array Value,(⟨z.toList⟩:Array Value)=z from λz=>rfl] at hr
    simp only[binOp,Sem.run_bind]
    rw[hr];rfl)
 ·exact h.elim
def NI{op:UnOp}{a:Value}(h:NJ op a K w):PV P (Op.unary op a) w K:=by
 unfold NJ at h;split at h
 ·exact⟨_,λw'=>rfl,h⟩
 ·exact⟨_,λw'=>rfl,h⟩
 ·exact⟨_,λw'=>rfl,h⟩
 ·exact h.elim
def run_convert_int{s d:TypeId}{sd:TypeDesc}{k:IntKind}(hs:P.underlying s=some sd)(hd:P.underlying d=some (.int k))(j:IntKind)(n:Int)(w:World):
 (convert s d (.int j n)).run P w=.ok (.int k (k.wrap n)) w:=by
 simp[convert,underlying,hs,hd,Conv.intToInt]
def run_sliceBound{x:Int}{y:Nat}{code:BoundsCode}(h:0<=x/\x<=y)(k:IntKind)(w:World):(Instr.sliceBound (.int k x) y code).run P w=.ok x.toNat w:=by
 simp[Instr.sliceBound,asIntOf,h.1,h.2]
end
section
variable {P:Program} {K:VK} {w:World}
def BI(v:Option Value)(n:Option Int):Prop:=match v,n with
 |none,none=>True
 |some v,some n=>∃k,v=.int k n
 |_,_=>False
def Sub.QW{n:Nat}{e:Env}{a:Act}(h:Sub n e a){x:Option Operand}{r:Option Int}(hx:QW e x=some r):BI (x.map a.eval) r:=by
 cases x with
 |none=>simp only[Den.QW,bj.injEq] at hx;subst hx;trivial
 |some x=>
  simp only[Den.QW] at hx;cases h1:ev e x with
  |none=>simp[h1] at hx
  |some v=>
   cases v<;>simp[h1] at hx
   subst hx;exact⟨_,by rw[h.eval h1]⟩
def Yz(len cap:Nat)(l h:Option Int):Prop:=match h with
 |none=>(match l with|none=>True|some l=>0<=l/\l<=len)
 |some h=>(0<=h/\h<=cap)/\(match l with|none=>True|some l=>0<=l/\l<=h)
def bL(l:Option Int):Nat:=match l with|none=>0|some l=>l.toNat
def bH(h:Option Int)(len:Nat):Nat:=match h with|none=>len|some h=>h.toNat
def xd(sl:Bool){len cap:Nat}{lo hi:Option Value}{l h:Option Int}(IJ:BI lo l)(IK:BI hi h)
 (ok:Yz len cap l h)(w:World):
 (Instr.sliceBounds sl len cap lo hi none).run P w=.ok (bL l,bH h len,cap) w:=by
 unfold Yz at ok;cases h with
 |none=>
  cases hi with
  |some v=>exact IK.elim
  |none=>
   cases l with
   |none=>
    cases lo with
    |some v=>exact IJ.elim
    |none=>simp[Instr.sliceBounds,bL,bH]
   |some l=>
    cases lo with
    |none=>exact IJ.elim
    |some v=>
     obtain⟨k,rfl⟩:=IJ;simp only at ok;simp[Instr.sliceBounds,bL,bH,run_sliceBound ok]
 |some h=>
  cases hi with
  |none=>exact IK.elim
  |some v=>
   obtain⟨k,rfl⟩:=IK;simp only at ok;obtain⟨ok1,ok2⟩:=ok;cases l with
   |none=>
    cases lo with
    |some v=>exact IJ.elim
    |none=>simp[Instr.sliceBounds,bL,bH,run_sliceBound ok1]
   |some l=>
    cases lo with
    |none=>exact IJ.elim
    |some v=>
     obtain⟨k,rfl⟩:=IJ;have ok3:0<=l/\l<=(h.toNat:Nat):=⟨ok2.1,by have:=ok2.2;omega⟩;simp[Instr.sliceBounds,bL,bH,run_sliceBound ok1,run_sliceBound ok3]
def K'{s:BA}{l h:Option Int}{K:BA->WK}(hh:iW s l h K w):
 Yz s.size s.size l h/\K (s.extract (bL l) (bH h s.size)) w:=by
 unfold Yz bL bH;unfold iW aY at hh;cases h<;>cases l<;>simp only at hh⊢
 ·exact⟨trivial,hh⟩
 ·exact hh
 ·exact⟨⟨hh.1,trivial⟩,hh.2⟩
 ·exact⟨⟨hh.1,hh.2.1⟩,hh.2.2⟩
def F3{b:OA}{len cap size:Nat}{l h:Option Int}{K:OA->Nat->Nat->WK}(hh:oW b len cap size l h K w):
 Yz len cap l h/\K (rF b cap (bL l) size) (bH h len-bL l) (cap-bL l) w:=by
 unfold Yz bL bH;unfold oW aY at hh;cases h<;>cases l<;>simp only at hh⊢
 ·exact⟨trivial,hh⟩
 ·exact hh
 ·exact⟨⟨hh.1,trivial⟩,hh.2⟩
 ·exact⟨⟨hh.1,hh.2.1⟩,hh.2.2⟩
def run_sizeOf{t:TypeId}{i:TypeInfo}(h:P.info? t=some i)(w:World):(sizeOf t).run P w=.ok i.size w:=by simp[sizeOf,typeInfo,h]
def F2{t:TypeId}{x:Value}{lo hi:Option Value}{l h:Option Int}(IJ:BI lo l)(IK:BI hi h)(hh:BC P t x l h K w):
 PV P (Instr.sliceAt t x lo hi none) w K:=by
 unfold BC at hh;generalize hu:P.underlying t=u at hh;split at hh
 ·rename_i s;obtain⟨h1,h2⟩:=K' hh;refine⟨_,λw'=>?_,h2⟩;simp[Instr.sliceAt,Instr.slice,underlying,hu,xd false IJ IK h1]
 ·rename_i e b n c;cases sj:P.info? e with
  |none=>simp only[sj,no] at hh
  |some i=>
   simp only[sj] at hh;obtain⟨h1,h2⟩:=F3 hh;refine⟨_,λw'=>?_,h2⟩;simp only[Instr.sliceAt,Instr.slice,Sem.run_bind,dR hu,Result.andThen_ok,xd true IJ IK h1,run_sizeOf sj,Sem.run_pure,rF]
 ·rename_i n e a;cases sj:P.info? e with
  |none=>simp only[sj,no] at hh
  |some i=>
   simp only[sj] at hh;obtain⟨h1,h2⟩:=F3 hh;refine⟨_,λw'=>?_,h2⟩;simp only[Instr.sliceAt,Sem.run_bind,dR hu,Result.andThen_ok,Instr.sureAddr,Sem.run_pure,xd false IJ IK h1,run_sizeOf sj,rF];split<;>rfl
 ·exact hh.elim
def La{t:TypeId}{a:Addr}{k1 k2 k3:IntKind}{l h m:Int}(hh:H' P t a l h m K w):PV P (Instr.sliceAt t (.pointer (some a)) (some (.int k1 l)) (some (.int k2 h)) (some (.int k3 m))) w K:=by
 unfold H' at hh;cases hu:P.underlying t with
 |none=>simp only[hu,no] at hh
 |some d=>
  cases d<;>simp only[hu,no] at hh
  rename_i n e;cases sj:P.info? e with
  |none=>simp only[sj,no] at hh
  |some i=>
   simp only[sj] at hh;obtain⟨⟨h1,h2,h3⟩,hk⟩:=hh;refine⟨_,λw'=>?_,hk⟩;simp only[Instr.sliceAt,Instr.sliceBounds,Sem.run_bind,dR hu,Result.andThen_ok,Instr.sureAddr,Sem.run_pure,run_sliceBound h1,run_sliceBound h2,run_sliceBound h3,run_sizeOf sj,rF];split<;>rfl
def pY{z v:Value}{K:VK}(h:Hz z K v w):K v w:=by
 unfold Hz at h;split at h
 ·obtain⟨n,rfl,h⟩:=h;exact h
 ·obtain⟨n,rfl,h⟩:=h;exact h
 ·obtain⟨n,rfl,h⟩:=h;exact h
 ·obtain⟨n,rfl,h⟩:=h;exact h
 ·obtain⟨b,n,c,rfl,h⟩:=h;exact h
 ·obtain⟨cs,rfl,_,h⟩:=h;exact h
 ·exact h
def Nt{z v:Value}{K:VK}(h:xT z K v w):K v w:=by
 unfold xT at h;split at h
 ·rename_i zs;generalize hz:zs.toList=l at h;split at h
  ·obtain⟨rfl,h⟩:=h;exact h
  ·obtain⟨a,b,rfl,h⟩:=h;have h1:=pY (K:=λa=>Hz _ (λb=>K (Value.tuple ⟨[a,b]⟩)) b) h;exact pY (K:=λb=>K (Value.tuple ⟨[a,b]⟩)) h1
  ·obtain⟨a,b,c,rfl,h⟩:=h;have h1:=pY (K:=λa=>Hz _ (λb=>Hz _ (λc=>K (Value.tuple ⟨[a,b,c]⟩)) c) b) h;have h2:=pY (K:=λb=>Hz _ (λc=>K (Value.tuple ⟨[a,b,c]⟩)) c) h1;exact pY (K:=λc=>K (Value.tuple ⟨[a,b,c]⟩)) h2
  ·exact h.elim
 ·exact pY h
def AI{t:TypeId}{x i:Value}(hh:ux P t x i K w):PV P (Instr.indexAt t x i) w K:=by
 unfold ux at hh;generalize hu:P.underlying t=u at hh;split at hh
 ·rename_i e b n c k j;cases sj:P.info? e with
  |none=>simp only[sj,no] at hh
  |some i=>
   simp only[sj] at hh;obtain⟨a,rfl,hb,hk⟩:=hh;refine⟨_,λw'=>?_,hk⟩;simp[Instr.indexAt,asIntOf,hb.1,hb.2,Sem.run_bind,underlying,hu,sizeOf,typeInfo,sj]
 ·rename_i n e a k j;cases sj:P.info? e with
  |none=>simp only[sj,no] at hh
  |some i=>
   simp only[sj] at hh;obtain⟨hb,hk⟩:=hh;refine⟨_,λw'=>?_,hk⟩;simp[Instr.indexAt,asIntOf,hb.1,hb.2,Sem.run_bind,underlying,hu,sizeOf,typeInfo,sj,Instr.sureAddr]
 ·exact hh.elim
def uw{t:TypeId}{d:TypeDesc}(h:P.underlying t=some d)(w:World):(isAgg t).run P w=.ok (qI d) w:=by
 simp only[isAgg,Sem.run_bind,dR h,Result.andThen_ok,qI];split<;>simp_all
def ya{t:TypeId}{d:TypeDesc}{i:TypeInfo}(h:P.underlying t=some d)(hi:P.info? t=some i)(ha:qI d=true)(cs:Array Value)(off:Nat)(w:World):
 (part t cs off).run P w=.ok (.agg ⟨(cs.toList.drop off).take i.size⟩) w:=by
 simp only[part,Sem.run_bind,uw h,Result.andThen_ok,ha,if_true,run_sizeOf hi,Sem.run_pure]
 congr 3
 apply rv;simp[List.take_drop]
def xZ{t:TypeId}{d:TypeDesc}(h:P.underlying t=some d)(ha:qI d=false){cs:Array Value}{off:Nat}{v:Value}(hv:cs.toList[off]?=some v)(w:World):
 (part t cs off).run P w=.ok v w:=by
 have Ah:cs[off]?=some v:=by simpa using hv
 simp[part,uw h,ha,Ah]
def LC(s:BA)(n:Nat):s[n]?=s.data.toList[n]?:=by
 by_cases h:n<s.size
 ·rw[getElem?_pos s n h];have h2:n<s.data.toList.length:=by simpa using h
  rw[ao h2];simp[ByteArray.getElem_eq_getElem_data]
 ·rw[getElem?_neg s n h];rw[gj];simp only[Array.length_toList];have:s.data.size=s.size:=rfl;omega
def GC{t:TypeId}{x i:Value}(hh:B8 P t x i K w):PV P (Instr.index t x i) w K:=by
 unfold B8 at hh;generalize hu:P.underlying t=u at hh;split at hh
 ·rename_i s k j;obtain⟨c,⟨h0,hc⟩,hk⟩:=hh;refine⟨_,λw'=>?_,hk⟩;have GN:s[j.toNat]?=some c:=by rw[LC];exact hc
  simp[Instr.index,asIntOf,underlying,hu,h0,GN]
 ·rename_i n e cs k j;cases hd:P.underlying e with
  |none=>simp only[hd,no] at hh
  |some d=>
   cases sj:P.info? e with
   |none=>simp only[hd,sj,no] at hh
   |some i=>
    simp only[hd,sj] at hh;cases ha:qI d with
    |true=>
     simp only[ha,cond_true] at hh;obtain⟨hb,hk⟩:=hh;refine⟨_,λw'=>?_,hk⟩;simp[Instr.index,asIntOf,dR hu,hb.1,hb.2,run_sizeOf sj,ya hd sj ha]
    |false=>
     simp only[ha,cond_false] at hh;cases hs:fe i.size 1 with
     |false=>simp[hs,no] at hh
     |true=>
      have dM:i.size=1:=df hs;simp only[hs,cond_true] at hh;cases hz:i.zero with
      |none=>simp only[hz,no] at hh
      |some z=>
       simp only[hz] at hh;obtain⟨v,⟨h0,h1,hv⟩,hk⟩:=hh;refine⟨v,λw'=>?_,pY hk⟩;simp[Instr.index,asIntOf,dR hu,h0,h1,run_sizeOf sj,dM,xZ hd ha hv]
 ·exact hh.elim
def GU{t:TypeId}{x:Value}{f:Nat}(hh:Ck P t x f K w):PV P (Instr.field t x f) w K:=by
 unfold Ck at hh;generalize hu:P.underlying t=u at hh;split at hh
 ·rename_i fs cs;cases hf:fs[f]? with
  |none=>simp only[hf,no] at hh
  |some fl=>
   simp only[hf] at hh;cases hd:P.underlying fl.type with
   |none=>simp only[hd,no] at hh
   |some d=>
    cases sj:P.info? fl.type with
    |none=>simp only[hd,sj,no] at hh
    |some i=>
     simp only[hd,sj] at hh;cases ha:qI d with
     |true=>
      simp only[ha,cond_true] at hh;refine⟨_,λw'=>?_,hh⟩;simp[Instr.field,dR hu,hf,asAgg,ya hd sj ha]
     |false=>
      simp only[ha,cond_false] at hh;cases hz:i.zero with
      |none=>simp only[hz,no] at hh
      |some z=>
       simp only[hz] at hh;obtain⟨v,hv,hk⟩:=hh;refine⟨v,λw'=>?_,pY hk⟩;simp[Instr.field,dR hu,hf,asAgg,xZ hd ha hv]
 ·exact hh.elim
def AL{t:TypeId}{x:Value}{f:Nat}(hh:uD P t x f K w):PV P (Instr.fieldAt t x f) w K:=by
 unfold uD at hh;generalize hu:P.underlying t=u at hh;split at hh
 ·rename_i fs a;cases hf:fs[f]? with
  |none=>simp only[hf,no] at hh
  |some fl=>
   simp only[hf] at hh;cases sj:P.info? fl.type with
   |none=>simp only[sj,no] at hh
   |some i=>
    simp only[sj] at hh;cases hs:fe i.size 0 with
    |true=>simp[hs,no] at hh
    |false=>
     have dM:i.size≠0:=λh=>by simp[h] at hs
     simp only[hs,cond_false] at hh;refine⟨_,λw'=>?_,hh⟩;simp[Instr.fieldAt,dR hu,hf,Instr.sureAddr,fieldPlace,run_sizeOf sj,dM]
 ·exact hh.elim
def DK{t ty:TypeId}{ts:Array TypeId}{x:Value}(ht:ts.toList=[t]\/∃r,ts.toList=t::r)(hh:B3 P t x K w):PV P (Builtin.len_ ts ty #[x]) w K:=by
 have h0:ts[0]?=some t:=by
  cases ts
  rcases ht with h|⟨r,h⟩<;>simp only at h<;>subst h<;>rfl
 unfold B3 at hh;generalize hu:P.underlying t=u at hh;split at hh
 ·exact⟨_,λw'=>by simp[Builtin.len_,h0,dR hu,goInt],hh⟩
 ·exact⟨_,λw'=>by simp[Builtin.len_,h0,dR hu,goInt],hh⟩
 ·exact⟨_,λw'=>by simp[Builtin.len_,h0,dR hu,goInt],hh⟩
 ·exact hh.elim
def zw{k:IntKind}:∀{x:Int} {l:LV} {m:Int},nQ x l=some m->∀w:World,(l.foldlM Builtin.min2 (.int k x)).run P w=.ok (.int k m) w
 |x,[],m,h,w=>by simp only[nQ,bj.injEq] at h;subst h;rfl
 |x,.int j y::r,m,h,w=>by
  simp only[nQ] at h;have:=zw (k:=k) h w;simp only[List.foldlM_cons,Sem.run_bind,Builtin.min2,Sem.run_pure,Result.andThen_ok];exact this
 |x,.bool _::_,m,h,w=>by simp[nQ] at h
 |x,.float _ _::_,m,h,w=>by simp[nQ] at h
 |x,.complex _ _ _::_,m,h,w=>by simp[nQ] at h
 |x,.string _::_,m,h,w=>by simp[nQ] at h
 |x,.pointer _::_,m,h,w=>by simp[nQ] at h
 |x,.slice _ _ _::_,m,h,w=>by simp[nQ] at h
 |x,.map _::_,m,h,w=>by simp[nQ] at h
 |x,.chan _::_,m,h,w=>by simp[nQ] at h
 |x,.func _ _ _::_,m,h,w=>by simp[nQ] at h
 |x,.nilFunc::_,m,h,w=>by simp[nQ] at h
 |x,.iface _ _::_,m,h,w=>by simp[nQ] at h
 |x,.nilIface::_,m,h,w=>by simp[nQ] at h
 |x,.agg _::_,m,h,w=>by simp[nQ] at h
 |x,.tuple _::_,m,h,w=>by simp[nQ] at h
def DI{k:IntKind}:∀{l:LV} {x:Int} {m:Int},B1 x l=some m->∀w:World,(l.foldlM Builtin.max2 (.int k x)).run P w=.ok (.int k m) w:=by
 intro l
 induction l with
 |nil=>intro x m h w;simp only[B1,bj.injEq] at h;subst h;rfl
 |cons v r ih=>
  intro x m h w;cases v<;>simp only[B1,reduceCtorEq] at h
  rename_i j y;simp only[List.foldlM_cons,Sem.run_bind,Builtin.max2,Sem.run_pure,Result.andThen_ok];exact ih h w
end
section
variable {P:Program} {K:VK} {w:World}
def iz(v:Value):v.cells.toList=dJ v:=by cases v<;>rfl
def DY:∀(cs:LV)(A B C:LV)(k off:Nat),A.length=off+k->B.length=cs.length->
 (cs.zipIdx k).foldl (λ(z:Array Value)(p:Value×Nat)=>z.setIfInBounds (off+p.2) p.1) ⟨A++B++C⟩=⟨A++cs++C⟩
 |[],A,B,C,k,off,h1,h2=>by
  have:B=[]:=List.eq_nil_of_length_eq_zero h2;subst this;rfl
 |c::cs,A,B,C,k,off,h1,h2=>by
  cases B with
  |nil=>simp at h2
  |cons b B=>
   simp only[List.zipIdx_cons,FB];have e:(⟨A++(b::B)++C⟩:Array Value).setIfInBounds (off+k) c=⟨(A++[c])++B++C⟩:=by
    apply rv;rw[Array.toList_setIfInBounds];simp only[aI,fE,dm];rw[<-h1,List.set_append];simp
   rw[e,DY cs (A++[c]) B C (k+1) off (by simp;omega) (by simpa using h2)];simp
def Mg(A B C:LV)(v:Value)(off:Nat)(h1:A.length=off)(h2:B.length=(dJ v).length):
 v.cells.zipIdx.foldl (λ(z:Array Value)(p:Value×Nat)=>z.setIfInBounds (off+p.2) p.1) ⟨A++B++C⟩=⟨A++dJ v++C⟩:=by
 rw[<-Array.foldl_toList,Array.toList_zipIdx,iz];exact DY (dJ v) A B C 0 off (by omega) h2
def tK(PL:List (Nat×Nat))(place:Nat->Option (Nat×Nat))(hp:∀j x,PL[j]?=some x->place j=some x)(zero:LV):
 ∀(fs:List (Nat×Nat))(at_ i:Nat)(done:LV)(ps:List (Nat×Value))(r:LV)(p:Prop),fs=PL.drop i->done.length=at_->at_<=zero.length->
  rS zero fs at_ i (ps.map λq=>(q.1,dJ q.2))=some (r,p)->p->
  Instr.fill place ⟨done++zero.drop at_⟩ ps=some ⟨done++r⟩
 |[],at_,i,done,ps,r,p,DR,hd,hz,h,R1=>by
  simp only[rS] at h;cases hb:fe at_ zero.length with
  |false=>simp[hb] at h
  |true=>
   simp only[hb,cond_true] at h;have he:=df hb;cases ps with
   |nil=>
    simp only[List.map_nil,bj.injEq,Prod.mk.injEq] at h;obtain⟨rfl,_⟩:=h;simp[Instr.fill,he]
   |cons q ps=>simp at h
 |(off,n)::fs,at_,i,done,ps,r,p,DR,hd,hz,h,R1=>by
  simp only[rS] at h;have hPL:PL[i]?=some (off,n):=by
   have:(PL.drop i)[0]?=some (off,n):=by rw[<-DR];rfl
   simpa using this
  have ZR:fs=PL.drop (i+1):=by
   have:(PL.drop i).tail=fs:=by rw[<-DR];rfl
   rw[<-this,List.tail_drop]
  cases hb:fe off at_ with
  |false=>simp[hb] at h
  |true=>
   simp only[hb,cond_true] at h;have he:=df hb;subst he;have skip:∀r',rS zero fs (off+n) (i+1) (ps.map λq=>(q.1,dJ q.2))=some (r',p)->r=(zero.drop off).take n++r'->off+n<=zero.length->Instr.fill place ⟨done++zero.drop off⟩ ps=some ⟨done++r⟩:=by
    intro r' h' hr hle;have:=tK PL place hp zero fs (off+n) (i+1) (done++(zero.drop off).take n) ps r' p ZR (by simp;omega) hle h' R1;rw[aI,aI] at this;rw[<-hr] at this;rw[<-this]
    congr 3
    rw[<-Jv,u2]
   have bound:∀(fs:List (Nat×Nat))(a i:Nat)(qs:List (Nat×LV))(x:LV×Prop),rS zero fs a i qs=some x->a<=zero.length:=by
    intro fs
    induction fs with
    |nil=>
     intro a i qs x hx;simp only[rS] at hx;cases hb:fe a zero.length with
     |false=>simp[hb] at hx
     |true=>exact Nat.le_of_eq (df hb)
    |cons f fs ih=>
     intro a i qs x hx;obtain⟨o,m⟩:=f;simp only[rS] at hx;cases hb:fe o a with
     |false=>simp[hb] at hx
     |true=>
      simp only[hb,cond_true] at hx;have key:∀qs',(∃y,rS zero fs (a+m) (i+1) qs'=some y)->a<=zero.length:=λqs' ⟨y,hy⟩=>by have:=ih _ _ _ _ hy;omega
      cases qs with
      |nil=>
       cases hc:rS zero fs (a+m) (i+1) [] with
       |none=>simp[hc] at hx
       |some y=>exact key _ ⟨y,hc⟩
      |cons q qs=>
       obtain⟨j,cs⟩:=q;cases hj:fe i j with
       |true=>
        simp only[hj,cond_true] at hx;cases hc:rS zero fs (a+m) (i+1) qs with
        |none=>simp[hc] at hx
        |some y=>exact key _ ⟨y,hc⟩
       |false=>
        simp only[hj,cond_false] at hx;cases hc:rS zero fs (a+m) (i+1) ((j,cs)::qs) with
        |none=>simp[hc] at hx
        |some y=>exact key _ ⟨y,hc⟩
   cases ps with
   |nil=>
    simp only[List.map_nil] at h skip;cases hc:rS zero fs (off+n) (i+1) [] with
    |none=>simp[hc] at h
    |some y=>
     obtain⟨r',p'⟩:=y;simp only[hc,bj.injEq,Prod.mk.injEq] at h;obtain⟨h1,h2⟩:=h;subst h2;exact skip r' hc h1.symm (bound _ _ _ _ _ hc)
   |cons q ps=>
    obtain⟨j,v⟩:=q;simp only[fq] at h skip;cases hj:fe i j with
    |true=>
     simp only[hj,cond_true] at h;have Ks:=df hj;subst Ks;cases hc:rS zero fs (off+n) (i+1) (ps.map λq=>(q.1,dJ q.2)) with
     |none=>simp[hc] at h
     |some y=>
      obtain⟨r',p'⟩:=y;simp only[hc,bj.injEq,Prod.mk.injEq] at h;obtain⟨h1,h2⟩:=h;subst h2;obtain⟨hlen,hp'⟩:=R1;have hle:=bound _ _ _ _ _ hc;have:=tK PL place hp zero fs (off+n) (i+1) (done++dJ v) ps r' p' ZR (by simp;omega) hle hc hp';rw[aI,aI,h1] at this;simp only[Instr.fill,hp i _ hPL];have oI:v.cells.size=n:=by rw[<-hlen,<-iz];simp
      have L2: ¬((decide (v.cells.size≠n)||decide (off+v.cells.size>(⟨done++zero.drop off⟩:Array Value).size))=true):=by
       simp[oI];omega
      rw[ah L2];have e:(⟨done++zero.drop off⟩:Array Value)=⟨done++(zero.drop off).take n++zero.drop (off+n)⟩:=by
       rw[aI,<-Jv,u2]
      rw[e,Mg done ((zero.drop off).take n) (zero.drop (off+n)) v off hd (by simp[hlen];omega)];rw[<-this,aI]
    |false=>
     simp only[hj,cond_false] at h;cases hc:rS zero fs (off+n) (i+1) ((j,dJ v)::ps.map λq=>(q.1,dJ q.2)) with
     |none=>simp[hc] at h
     |some y=>
      obtain⟨r',p'⟩:=y;simp only[hc,bj.injEq,Prod.mk.injEq] at h;obtain⟨h1,h2⟩:=h;subst h2;exact skip r' hc h1.symm (bound _ _ _ _ _ hc)
end
section
variable {P:Program} {K:VK} {w:World}
def BO(f:Field):Sem (Nat×Nat):=do pure (f.offset,<-sizeOf f.type)
def yp:∀{fs:List Field} {pl:List (Nat×Nat)},uj P fs=some pl->∀w,(fs.mapM BO).run P w=.ok pl w
 |[],pl,h,w=>by simp only[uj,bj.injEq] at h;subst h;rfl
 |f::fs,pl,h,w=>by
  simp only[uj] at h;cases hi:P.info? f.type with
  |none=>simp[hi] at h
  |some i=>
   cases hr:uj P fs with
   |none=>simp[hi,hr] at h
   |some r=>
    simp only[hi,hr,bj.injEq] at h;subst h;have h1:(BO f).run P w=.ok (f.offset,i.size) w:=by simp[BO,run_sizeOf hi]
    rw[List.mapM_cons,Sem.run_bind,h1,Result.andThen_ok,Sem.run_bind,yp hr w];rfl
def uf{t:TypeId}{z:Value}(h:zeroOf P t=some z)(w:World):(zeroValue t).run P w=.ok z w:=by
 unfold zeroOf at h;cases hi:P.info? t with
 |none=>simp[hi] at h
 |some i=>
  simp only[hi] at h;simp[zeroValue,typeInfo,hi,h]
def Hi{t:TypeId}{ps:List (Nat×Value)}(hh:Cv P t ps K w):PV P (Instr.build t ⟨ps⟩) w K:=by
 unfold Cv at hh;generalize hz:zeroOf P t=z at hh;generalize hu:P.underlying t=u at hh;split at hh
 ·rename_i z fs;cases hp:uj P fs.toList with
  |none=>simp only[hp,no] at hh
  |some pl=>
   simp only[hp] at hh;cases hc:rS z.toList pl 0 0 (ps.map λp=>(p.1,dJ p.2)) with
   |none=>simp only[hc,no] at hh
   |some y=>
    obtain⟨cs,p⟩:=y;simp only[hc] at hh;obtain⟨R1,hk⟩:=hh;refine⟨_,λw'=>?_,hk⟩;have hm:(fs.mapM BO).run P w'=.ok ⟨pl⟩ w':=by
     rw[<-Array.toArray_toList (xs:=fs),List.mapM_toArray,Sem.run_map,yp hp w'];rfl
    have hf:=tK pl ((⟨pl⟩:Array (Nat×Nat))[·]?) (λj x hx=>by simpa using hx) z.toList pl 0 0 [] ps cs p rfl rfl (aL _) hc R1;simp only[dm,oC] at hf;simp only[Instr.build,Sem.run_bind,uf hz,Result.andThen_ok,dR hu,Value.cells];rw[show(fs.mapM λf=>(do let a<-sizeOf f.type;pure (f.offset,a):Sem (Nat×Nat)))=fs.mapM BO from rfl,hm];simp only[Result.andThen_ok];rw[hf];rfl
 ·rename_i z n e;cases hi:P.info? e with
  |none=>simp only[hi,no] at hh
  |some i=>
   simp only[hi] at hh;cases hc:rS z.toList ((mD n).map λj=>(j* i.size,i.size)) 0 0 (ps.map λp=>(p.1,dJ p.2)) with
   |none=>simp only[hc,no] at hh
   |some y=>
    obtain⟨cs,p⟩:=y;simp only[hc] at hh;obtain⟨R1,hk⟩:=hh;refine⟨_,λw'=>?_,hk⟩;have hf:=tK ((mD n).map λj=>(j* i.size,i.size)) (λj=>some (j* i.size,i.size)) (λj x hx=>by
     rw[dC] at hx
     cases hr:(mD n)[j]? with
     |none=>simp[hr] at hx
     |some m=>
      have:m=j:=by
       rw[lz] at hr
       ·exact(bj.inj hr).symm
       ·have:=(ar.1 hr).1;simpa using this
      subst this;simpa [hr] using hx) z.toList _ 0 0 [] ps cs p rfl rfl (aL _) hc R1
    simp only[dm,oC] at hf;simp only[Instr.build,Sem.run_bind,uf hz,Result.andThen_ok,dR hu,Value.cells,run_sizeOf hi];rw[hf];rfl
 ·exact hh.elim
def uo{t:TypeId}{a:Addr}{K:LV->VK}(hh:yD P t a K w):
 ∃v cs,uQ w a cs/\(∀w',uQ w' a cs->(loadVar t a).run P w'=.ok v w')/\K cs v w:=by
 unfold yD at hh;cases hu:P.underlying t with
 |none=>simp only[hu,no] at hh
 |some d=>
  cases hi:P.info? t with
  |none=>simp only[hu,hi,no] at hh
  |some i=>
   simp only[hu,hi] at hh;cases ha:qI d with
   |true=>
    simp only[ha,cond_true] at hh;obtain⟨cs,hl,hH,hk⟩:=hh;refine⟨_,cs,hH,λw' hH'=>?_,hk⟩;simp only[loadVar,Sem.run_bind,uw hu,Result.andThen_ok,ha,if_true,run_sizeOf hi];rw[<-hl,run_loadCells_list w' a cs hH'];rfl
   |false=>
    simp only[ha,cond_false] at hh;cases hz:i.zero with
    |none=>simp only[hz,no] at hh
    |some z=>
     simp only[hz] at hh;obtain⟨v,hc,hk⟩:=hh;have a0:a.add 0=a:=by simp[Addr.add]
     refine⟨v,[v],λj u hj=>?_,λw' hH'=>?_,pY (K:=λv=>K [v] v) hk⟩
     ·cases j with
      |zero=>simp only[oz,bj.injEq] at hj;subst hj;rw[a0];exact hc
      |succ j=>simp at hj
     ·have:=hH' 0 v rfl;rw[a0] at this;simp only[loadVar,Sem.run_bind,uw hu,Result.andThen_ok,ha,cn,if_false,run_load,this]
def PX{a b:Addr}{v:Value}(h:∃o,w.cell? b=some o):∃o,(w.setCell a v).cell? b=some o:=by
 obtain⟨o,h⟩:=h;by_cases Yu:a=b
 ·subst Yu;exact⟨v,World.cell?_setCell_same w a v h⟩
 ·exact⟨o,by rw[World.cell?_setCell_other w a b v Yu];exact h⟩
def sW.tail{a:Addr}{i:Nat}{v:Value}{cs:LV}(h:sW w a i (v::cs)):sW (w.setCell (a.add i) v) a (i+1) cs:=by
 refine⟨λu hu=>h.1 u (qN _ hu),λj hj=>?_⟩;have:=h.2 (j+1) (by simp;omega);rw[show i+1+j=i+(j+1) from by omega];exact⟨PX this.1,by rw[World.frozen?_setCell];exact this.2⟩
def rI:∀(cs:LV)(a:Addr)(i:Nat)(w:World),sW w a i cs->(storeCells a cs i).run P w=.ok () (vk w a i cs)
 |[],a,i,w,h=>rfl
 |v::cs,a,i,w,h=>by
  have h0:=h.2 0 (by simp);obtain⟨⟨o,ho⟩,hf⟩:=h0;simp only[iL] at ho hf;simp only[storeCells,Sem.run_bind,run_store P w (a.add i) v .plain (h.1 v (by simp)),ho,hf,vk];exact rI cs a (i+1) _ h.tail
def CW{t:TypeId}{a:Addr}{v:Value}(hh:Bz P t a v K w):∃w',(storeVar t a v).run P w=.ok () w'/\K undef w':=by
 unfold Bz at hh;cases hi:P.info? t with
 |none=>simp only[hi,no] at hh
 |some i=>
  simp only[hi] at hh;have one:v.cells.toList=[v]->(bif fe i.size 1 then st a v (K undef) else no) w->∃w',(storeVar t a v).run P w=.ok () w'/\K undef w':=by
   intro hv hh;cases hs:fe i.size 1 with
   |false=>simp[hs,no] at hh
   |true=>
    have dM:i.size=1:=df hs;simp only[hs,cond_true] at hh;obtain⟨h1,⟨o,ho⟩,hf,hk⟩:=hh;have a0:a.add 0=a:=by simp[Addr.add]
    refine⟨_,?_,hk⟩;have oI:v.cells.size=1:=by rw[<-Array.length_toList,hv];rfl
    simp only[storeVar,Sem.run_bind,run_sizeOf hi,Result.andThen_ok,dM,oI,ne_eq,not_true,if_false,hv];have:=rI (P:=P) [v] a 0 w ⟨λu hu=>by simp at hu;subst hu;exact h1,λj hj=>by simp at hj;subst hj;simp only[iL,a0];exact⟨⟨o,ho⟩,hf⟩⟩;simp only[vk,a0] at this;exact this
  split at hh
  ·rename_i cs;obtain⟨hl,hc,hk⟩:=hh;refine⟨_,?_,hk⟩;have HG:cs.size=i.size:=by simpa using hl
   simp only[storeVar,Sem.run_bind,run_sizeOf hi,Result.andThen_ok,Value.cells,HG,ne_eq,not_true,if_false];exact rI _ _ _ _ hc
  ·rename_i hv;refine one ?_ hh;cases v<;>first|rfl|exact aR rfl (hv _)
end
section
variable {P:Program} {K:VK} {w:World}
def SV(P:Program)(s:Sem Value)(w:World)(K:VK):Prop:=∃v w',s.run P w=.ok v w'/\K v w'
def SV.toX{s:Sem Value}(h:SV P s w K):To P (do pure (.value (<-s))) w K:=by
 obtain⟨v,w',hr,hk⟩:=h;exact .inl ⟨v,w',by simp[hr],hk⟩
def PV.sv{s:Sem Value}(h:PV P s w K):SV P s w K:=let⟨v,hr,hk⟩:=h;⟨v,w,hr w,hk⟩
def Zb{cs:LV}{t:TypeId}(h:mk cs (λr=>K (yo r)) w)(v:Value)(hv:dJ v=cs):SV P (Instr.box t v) w K:=by
 refine⟨_,_,?_,h t⟩;have:v.cells=⟨cs⟩:=by rw[<-hv,<-iz]
 simp[Instr.box,newVar,newRow,this,yo]
def Qa{t:TypeId}{z:Value}(hz:zeroOf P t=some z)(h:mk (dJ z) (λr=>K (yo r)) w):SV P (Instr.alloc t true (.tuple #[])) w K:=by
 refine⟨_,_,?_,h t⟩;have:z.cells=⟨dJ z⟩:=by rw[<-iz]
 simp[Instr.alloc,uf hz,newVar,newRow,this,yo]
def MM{t:TypeId}{z:Value}(hz:zeroOf P t=some z)(h:Zc t (dJ z) (λr=>K (yo r)) w):SV P (Instr.alloc t true (.tuple #[])) w K:=by
 refine⟨_,_,?_,h⟩;have:z.cells=⟨dJ z⟩:=by rw[<-iz]
 simp[Instr.alloc,uf hz,newVar,newRow,this,yo]
def rJ{n size len cap:Nat}{b:OA}{cs:LV}(h:Src w n size b cs)(hb:b=none->n=0):
 (Builtin.firstCells size n (.slice b len cap)).run P w=.ok ⟨cs⟩ w:=by
 cases b with
 |none=>
  have h0:=hb rfl;subst h0;have hl:=h.1;simp at hl;subst hl;exact run_firstCells_none (P:=P) w size 0 len cap
 |some a=>exact run_firstCells_some (P:=P) w size n a len cap cs h.1 (h.2 a rfl)
def xa{s:BA}(size:Nat):(Builtin.firstCells size s.size (.string s)).run P w=.ok ⟨strCells s⟩ w:=by
 have e:s.extract 0 s.size=s:=by simp
 simp only[Builtin.firstCells,e,Sem.run_pure,strCells]
 congr 1
 apply rv;simp
def E3{Y8 old:Nat}{el:TypeId}(t:Nat):Y8<=(Question.appendCap Y8 old el).cut t:=by
 simp only[Question.cut];omega
def Hn{size bytes:Nat}{z:Value}{b:OA}{len cap n:Nat}{new:LV}{K:OA->Nat->Nat->WK}{t u ty e:TypeId}{i:TypeInfo}{du:TypeDesc}{x:Value}
 (h:S5 size bytes (dJ z) b len cap n new K w)(ht:P.underlying t=some (.slice e))(hu:P.underlying u=some du)(hdu:∀k,du≠.int k)(hi:P.info? e=some i)(hs:i.size=size)(Kv:i.bytes=bytes)(hz:i.zero=some z)
 (hlen:(Builtin.lenOf x).run P w=.ok n w)(zD:∀w',(∀a,w'.cell? a=w.cell? a)->(Builtin.firstCells size n x).run P w'=.ok ⟨new⟩ w'):
 ∃b' n' c' w',(Builtin.append_ #[t,u] ty #[.slice b len cap,x]).run P w=.ok (.slice b' n' c') w'/\K b' n' c' w':=by
 subst hs Kv;have hz':z.cells=⟨dJ z⟩:=by rw[<-iz]
 have hnz:(match du with| .int _=>true|_=>false)=false:=by cases du<;>first|rfl|exact aR rfl (hdu _)
 by_cases hle:len+n<=cap
 ·obtain⟨h1,h2⟩:=h.1 hle;cases b with
  |none=>
   refine⟨_,_,_,_,?_,h2 rfl⟩;simp only[Builtin.append_,u3,oz,aW,Sem.run_bind,dR ht,dR hu,run_sizeOf hi,Result.andThen_ok,Sem.run_pure,cn,if_false,hlen,Bool.not_false,if_true,hle,zD w (λ_=>rfl)]
  |some a=>
   obtain⟨hc,hk⟩:=h1 a rfl;refine⟨_,_,_,_,?_,hk⟩;simp only[Builtin.append_,u3,oz,aW,Sem.run_bind,dR ht,dR hu,run_sizeOf hi,Result.andThen_ok,Sem.run_pure,cn,if_false,hlen,Bool.not_false,if_true,hle,zD w (λ_=>rfl),rI _ _ _ _ hc]
 ·have bW:cap<len+n:=by omega
  obtain⟨hb1,Kw,old,xj,hn,hk⟩:=h.2 bW;have uY:=growslice_fits (old:=cap) (bytes:=i.bytes) bW hb1;have hm: ¬(((len+n:Nat):Int)>ag.max/\(False\/i.bytes=0)):=by
   have e:ag.max=9223372036854775807:=by decide
   rw[e];omega
  refine⟨_,_,_,_,?_,hk _ e (E3 (old:=cap) (el:=e) (w.tape w.drawn (.appendCap (len+n) cap e)))⟩;have hf1:∀(l c:Nat),(Builtin.firstCells i.size len (.slice b l c)).run P w.drew=.ok ⟨old⟩ w.drew:=λl c=>
   rJ (w:=w.drew) ⟨xj.1,λa ha=>xj.2 a ha⟩ hn
  have A4:=zD w.drew (λ_=>rfl);have Xb: ¬(Builtin.nextslicecap (len+n) cap* i.bytes>2^48):=by omega
  simp only[Builtin.append_,u3,oz,aW,Sem.run_bind,dR ht,dR hu,run_sizeOf hi,Result.andThen_ok,Sem.run_pure,cn,if_false,hlen,Bool.not_false,if_true,hle,
   typeInfo,run_program,hi,Xb,hm,zeroValue,hz,run_choose,Question.forced,run_askRoom,World.drew_eq,hf1,A4,newRow,run_newObj,World.alloc_eq,hz',Sem.run_ite,run_mark]
  have e2:(⟨old⟩++⟨new⟩:Array Value)=(old++new).toArray:=by simp
  rw[e2];rfl
def MK{t u ty:TypeId}{s x:Value}(hh:Jm P t u s x K w):SV P (Builtin.append_ #[t,u] ty #[s,x]) w K:=by
 unfold Jm at hh;generalize ht:P.underlying t=dt at hh;split at hh
 case h_2=>exact hh.elim
 rename_i e b n c;cases hi:P.info? e with
 |none=>simp only[hi,no] at hh
 |some i=>
  simp only[hi] at hh;cases hz:i.zero with
  |none=>simp only[hz,no] at hh
  |some z=>
   simp only[hz] at hh;generalize hu:P.underlying u=du at hh;split at hh
   ·rename_i e' b' m c';obtain⟨new,xj,hn,adG⟩:=hh;obtain⟨b1,n1,c1,w1,hr,hk⟩:=Hn (P:=P) (ty:=ty) (x:=.slice b' m c') adG ht hu (λk=>by simp) hi rfl rfl hz rfl (λw' Nj=>rJ (w:=w') ⟨xj.1,λa ha j v hj=>by rw[Nj];exact xj.2 a ha j v hj⟩ hn);exact⟨_,_,hr,hk⟩
   ·rename_i y;cases hs:(fe i.size 1&&fe i.bytes 1) with
    |false=>simp only[hs,cond_false,no] at hh
    |true=>
     simp only[hs,cond_true] at hh;simp only[cY] at hs;have h1:=df hs.1;have h2:=df hs.2;split at hh
     ·obtain⟨b1,n1,c1,w1,hr,hk⟩:=Hn (P:=P) (ty:=ty) (x:=.string y) (z:=.int .u8 0) hh ht hu (λk=>by simp) hi h1 h2 hz rfl (λw' _=>xa (w:=w') i.size);exact⟨_,_,hr,hk⟩
     ·exact hh.elim
   ·exact hh.elim
def XM{p:OA}{n c:Nat}{K:BA->WK}(h:Np p n K w):∃s,(Conv.bytesToString (.slice p n c)).run P w=.ok (.string s) w/\K s w:=by
 cases p with
 |none=>exact⟨_,rfl,h.1 rfl⟩
 |some a=>
  obtain⟨cs,hl,hH,hb,hk⟩:=h.2 a rfl;refine⟨_,?_,hk⟩;subst hl;have key:∀(l:LV),(∀v∈l,∃m,v=.int .u8 m)->∃ns:List Int,l=ns.map (.int .u8)/\bytesOf l=ns.map λn=>UInt8.ofNat n.toNat:=by
   intro l
   induction l with
   |nil=>intro _;exact⟨[],rfl,rfl⟩
   |cons v l ih=>
    intro hv;obtain⟨m,rfl⟩:=hv v (by simp);obtain⟨ns,h1,h2⟩:=ih λv Ah=>hv v (by simp[Ah]);exact⟨m::ns,by rw[h1];rfl,by simp only[fq,<-h2];rfl⟩
  have fold:∀(ns:List Int)(s:BA),ns.foldl (λr n=>r.push (UInt8.ofNat n.toNat)) s=⟨s.data++(ns.map λn=>UInt8.ofNat n.toNat).toArray⟩:=by
   intro ns
   induction ns with
   |nil=>intro s;simp
   |cons n ns ih=>
    intro s;rw[FB,ih]
    congr 1
    apply rv;simp[ByteArray.push]
  obtain⟨ns,h1,h2⟩:=key cs hb;have rN:=run_loadCells_list (P:=P) w a cs hH;have:=run_bytesToString (P:=P) w a cs.length c ns (by rw[rN,h1]);rw[this,fold,h2];simp[xG,ByteArray.emptyWithCapacity]
  rfl
def VX{e:TypeId}{s:BA}{K:Nat->Nat->WK}(h:s2b s K w):∃r c w',(Conv.stringToBytes e s).run P w=.ok (.slice (some ⟨r,0,none⟩) s.size c) w'/\K r c w':=by
 refine⟨_,_,_,?_,h _ e (E3 (old:=0) (el:=e) (w.tape w.drawn (.appendCap s.size 0 e)))⟩;have QT:(choose (.appendCap s.size 0 e)).run P w=.ok ((Question.appendCap s.size 0 e).cut (w.tape w.drawn (.appendCap s.size 0 e))) w.drew:=rfl;simp only[Conv.stringToBytes,Sem.run_bind,QT,Result.andThen_ok,newRow,run_newObj,World.alloc_eq,Sem.run_pure,markStringish,run_shape];have e1:(s.data.map λb=>Value.int .u8 b.toNat)=(strCells s).toArray:=by
  apply rv;simp[strCells]
 rw[e1];generalize hc:(Question.appendCap s.size 0 e).cut (w.tape w.drawn (Question.appendCap s.size 0 e))=c;have hle:s.size<=c:=by rw[<-hc];exact E3 (old:=0) (el:=e) _
 have oI:((strCells s).toArray++gw (c-s.size) (Value.int .u8 0)).size=c:=by
  have:s.data.size=s.size:=rfl;simp[strCells];omega
 have hsh:(w.drew.alloc (.cells ((strCells s).toArray++gw (c-s.size) (.int .u8 0)) e)).shape? w.drew.heap.size=some (e,c):=by
  simp only[World.shape?,World.alloc,Array.getElem?_push_size,oI]
 rw[hsh]
 rfl
def Bj(z:Array Value)(n:Nat):madeCells z (n* z.size)=Builtin.zeroCells z n:=rfl
def RM{t e:TypeId}{i:TypeInfo}{z:Value}{kl kc:IntKind}{l c:Int}(ht:P.underlying t=some (.slice e))(hi:P.info? e=some i)(hz:i.zero=some z)(hs:(dJ z).length=i.size)
 (h:Gx i.bytes (dJ z) l c (λb n c=>K (.slice b n c)) w):SV P (Instr.makeSlice t (.int kl l) (.int kc c)) w K:=by
 obtain⟨⟨h0,h1,h2,h3⟩,hk⟩:=h;refine⟨_,_,?_,hk e⟩;rw[run_make w t e i z ht hi hz kl kc l c h0 h1 (by rw[Int.mul_comm];exact h3) h2];have oI:z.cells.size=i.size:=by rw[<-hs,<-iz];simp
 rw[<-oI,Bj];have:z.cells=⟨dJ z⟩:=by rw[<-iz]
 rw[this]
def SN{t ty e:TypeId}{i:TypeInfo}{tM:Array TypeId}{b b':OA}{n c m c':Nat}(h0:tM[0]?=some t)(ht:P.underlying t=some (.slice e))(hi:P.info? e=some i)
 (h:PS i.size b n b' m (λk=>K (.i k)) w):SV P (Builtin.copy_ tM ty #[.slice b n c,.slice b' m c']) w K:=by
 obtain⟨new,xj,hn,h1,h2⟩:=h;have hf:=rJ (P:=P) (len:=m) (cap:=c') xj hn;cases b with
 |none=>
  refine⟨_,w,?_,h1 rfl⟩;simp only[Builtin.copy_,h0,u3,oz,aW,Sem.run_bind,dR ht,run_sizeOf hi,Result.andThen_ok,Sem.run_pure,Builtin.lenOf];rw[show Nat.min m n=min m n from rfl,hf]
  rfl
 |some a=>
  obtain⟨hc,hk⟩:=h2 a rfl;refine⟨_,_,?_,hk⟩;simp only[Builtin.copy_,h0,u3,oz,aW,Sem.run_bind,dR ht,run_sizeOf hi,Result.andThen_ok,Sem.run_pure,Builtin.lenOf];rw[show Nat.min m n=min m n from rfl,hf];simp only[Result.andThen_ok,rI _ _ _ _ hc,Sem.run_pure]
  rfl
def PR{t ty e:TypeId}{i:TypeInfo}{tM:Array TypeId}{b:OA}{n c:Nat}{s:BA}(h0:tM[0]?=some t)(ht:P.underlying t=some (.slice e))(hi:P.info? e=some i)
 (h:G8 b n s (λk=>K (.i k)) w):SV P (Builtin.copy_ tM ty #[.slice b n c,.string s]) w K:=by
 obtain⟨h1,h2⟩:=h;have hf:((s.extract 0 (min s.size n)).data.map λb=>Value.int .u8 b.toNat).toList=strCells (s.extract 0 (min s.size n)):=by
  unfold strCells;rw[AB]
 cases b with
 |none=>
  refine⟨_,w,?_,h1 rfl⟩;simp only[Builtin.copy_,h0,u3,oz,aW,Sem.run_bind,dR ht,run_sizeOf hi,Result.andThen_ok,Sem.run_pure,Builtin.lenOf,Builtin.firstCells]
  rfl
 |some a=>
  obtain⟨hc,hk⟩:=h2 a rfl;refine⟨_,_,?_,hk⟩;simp only[Builtin.copy_,h0,u3,oz,aW,Sem.run_bind,dR ht,run_sizeOf hi,Result.andThen_ok,Sem.run_pure,Builtin.lenOf,Builtin.firstCells];rw[show Nat.min s.size n=min s.size n from rfl,hf];simp only[Result.andThen_ok,rI _ _ _ _ hc,Sem.run_pure]
  rfl
def SP{t ty e:TypeId}{i:TypeInfo}{z:Value}{tM:Array TypeId}{b:OA}{n c:Nat}(h0:tM[0]?=some t)(ht:P.underlying t=some (.slice e))(hi:P.info? e=some i)(hz:i.zero=some z)
 (h:SQ (Builtin.zeroCells ⟨dJ z⟩ n).toList b n (K (.tuple ⟨[]⟩)) w):SV P (Builtin.clear_ tM ty #[.slice b n c]) w K:=by
 obtain⟨h1,h2⟩:=h;have hz':z.cells=⟨dJ z⟩:=by rw[<-iz]
 cases b with
 |none=>
  refine⟨_,w,?_,h1 (.inl rfl)⟩;simp[Builtin.clear_,h0,dR ht]
 |some a=>
  cases n with
  |zero=>
   refine⟨_,w,?_,h1 (.inr rfl)⟩;simp[Builtin.clear_,h0,dR ht]
  |succ n=>
   obtain⟨hc,hk⟩:=h2 a rfl (by omega);refine⟨_,_,?_,hk⟩;simp only[Builtin.clear_,h0,u3,oz,Sem.run_bind,dR ht,Result.andThen_ok,zeroValue,typeInfo,run_program,hi,hz,Sem.run_pure,hz',rI _ _ _ _ hc]
end
section
variable {P:Program} {K:VK} {w:World} {T:CQ} {n:Nat} {e:Env} {a:Act}
def aE(P:Program)(g:Nat)(p:WP):Prop:=
 (∃fn,P.funcs[g]?=some fn/\(fn.name== "runtime.NumGoroutine")=false/\fn.body.isNone=false)/\
 ∀args K w,p args K w->Calls P g ⟨args⟩ w λe w'=>∃v,e=.returned v/\K v w'
def Tj(P:Program)(g:Nat)(p:WP):Prop:=∀args K w,p args K w->∃v w',(callFunc g ⟨args⟩).run P w=.ok (.value v) w'/\K v w'
def kN(P:Program):CQ->Prop
 |[]=>True
 |(g,p)::r=>(aE P g p\/Tj P g p)/\kN P r
def Hf:∀{T:CQ},kN P T->∀{g:Nat} {args:LV} {K:VK} {w:World},Hg T g args K w->
 ((∃fn,P.funcs[g]?=some fn/\(fn.name== "runtime.NumGoroutine")=false/\fn.body.isNone=false)/\Calls P g ⟨args⟩ w λe w'=>∃v,e=.returned v/\K v w')\/
 ∃v w',(callFunc g ⟨args⟩).run P w=.ok (.value v) w'/\K v w'
 |[],_,_,_,_,_,h=>h.elim
 |(f,p)::r,hT,g,args,K,w,h=>by
  simp only[Hg] at h;cases hb:fe f g with
  |true=>
   have:=df hb;subst this;simp only[hb,cond_true] at h;rcases hT.1 with he|he
   ·exact .inl ⟨he.1,he.2 _ _ _ h⟩
   ·exact .inr (he _ _ _ h)
  |false=>
   simp only[hb,cond_false] at h;exact Hf hT.2 h
def yd{g:Nat}{args:Array Value}{fn:Func}(h:P.funcs[g]?=some fn)(h1:(fn.name== "runtime.NumGoroutine")=false)(h2:fn.body.isNone=false)(w:World):
 (callFunc g args).run P w=.ok (.enter g args) w:=by
 simp only[callFunc,Sem.run_bind,run_program,Result.andThen_ok,h,h1,h2,cn,if_false,Sem.run_pure]
def Ja(hT:kN P T)(hs:Sub n e a){c:Call}{ty:TypeId}(h:yW P T e c ty K w):To P (do let d<-resolve a.eval c ty;invoke d.target d.args) w K:=by
 obtain⟨callee,args,tM⟩:=c;unfold yW at h;cases wU:Mi e args.toList with
 |none=>simp only[wU,no] at h
 |some vs=>
  simp only[wU] at h;have Ph:=hs.EZ wU;cases callee with
  |invoke r m=>simp only[no] at h
  |value f=>
   cases hf:ev e f with
   |none=>simp only[hf,no] at h
   |some fv=>
    have hfe:=hs.eval hf;simp only[hf] at h;cases hz:zeroOf P ty with
    |none=>simp only[hz,no] at h
    |some z=>
     simp only[hz] at h;cases fv<;>first|exact False.elim h|skip
     rename_i fnv first cap
     cases fnv<;>first|exact False.elim h|skip
     rename_i g
     replace h:Hg T g (first.toList++vs++cap.toList) (xT z K) w:=h
     have Pq:(first++(⟨vs⟩:Array Value)++cap:Array Value)=⟨first.toList++vs++cap.toList⟩:=by
      apply rv;simp
     rcases Hf hT h with⟨⟨fn,h1,h2,h3⟩,hc⟩|⟨v,w',hr,hk⟩
     ·refine .inr (.inr ⟨g,⟨first.toList++vs++cap.toList⟩,w,?_,hc.mono λe w' ⟨v,he,hk⟩=>⟨v,he,Nt hk⟩⟩);simp only[resolve,hfe,Ph,Deferred.ofValue,invoke,Sem.run_bind,Sem.run_pure,Result.andThen_ok];rw[Pq,yd h1 h2 h3]
     ·refine .inl ⟨v,w',?_,Nt hk⟩;simp only[resolve,hfe,Ph,Deferred.ofValue,invoke,Sem.run_bind,Sem.run_pure,Result.andThen_ok];rw[Pq,hr]
  |builtin b=>
   simp only at h;have base:∀s:Sem Value,(∀cs,builtin b tM ty cs ⟨vs⟩=(do pure (.value (<-s))))->SV P s w K->To P (do let d<-resolve a.eval ⟨.builtin b,args,tM⟩ ty;invoke d.target d.args) w K:=by
    intro s hbs hsv;have:=SV.toX hsv;have e1:(do let d<-resolve a.eval ⟨.builtin b,args,tM⟩ ty;invoke d.target d.args:Sem Next)=(do pure (.value (<-s))):=by
     rw[<-hbs (args.map λ| .const _=>true|_=>false)];simp only[resolve,Ph,invoke]
     rfl
    rw[e1];exact this
   unfold xu at h;generalize DN:tM.toList=ts at h;split at h
   ·rename_i t r x;have h0:tM[0]?=some t:=by cases tM;simp only at DN;subst DN;rfl
    have hm:(∃k v,P.underlying t=some (.map k v))\/B3 P t x K w:=by
     cases hu:P.underlying t with
     |none=>right;simpa only[hu] using h
     |some u=>cases u<;>first|exact .inl ⟨_,_,rfl⟩|(right;simpa only[hu] using h)
    rcases hm with⟨kt,vt,hu⟩|h
    ·simp only[hu] at h;unfold Zf at h;split at h
     ·obtain⟨es,c,hb,hk⟩:=h;rename_i b;exact base (Builtin.len_ tM ty #[.map (some b)]) (λcs=>rfl) ⟨_,w,by simp[Builtin.len_,h0,dR hu,goInt,MapKept.run_getObj_map hb],hk⟩
     ·exact h.elim
    refine base (Builtin.len_ tM ty #[x]) (λcs=>rfl) (PV.sv (DK (t:=t) (.inr ⟨r,DN⟩) h))
   ·rename_i k x r;cases hm:nQ x r with
    |none=>simp only[hm,no] at h
    |some m=>
     simp only[hm] at h;exact base (Builtin.min_ tM ty ⟨.int k x::r⟩) (λcs=>rfl) ⟨_,w,zw hm w,h⟩
   ·rename_i k x r;cases hm:B1 x r with
    |none=>simp only[hm,no] at h
    |some m=>
     simp only[hm] at h;exact base (Builtin.max_ tM ty ⟨.int k x::r⟩) (λcs=>rfl) ⟨_,w,DI hm w,h⟩
   ·rename_i t u s x;have adD:tM=#[t,u]:=by cases tM;simp only at DN;subst DN;rfl
    subst adD;exact base (Builtin.append_ #[t,u] ty #[s,x]) (λcs=>rfl) (MK h)
   ·rename_i t r b1 m1 c1 b2 m2 c2;have h0:tM[0]?=some t:=by cases tM;simp only at DN;subst DN;rfl
    generalize ht:P.underlying t=d at h;split at h
    ·rename_i el;cases hi:P.info? el with
     |none=>simp only[hi,no] at h
     |some i=>
      simp only[hi] at h;exact base (Builtin.copy_ tM ty #[.slice b1 m1 c1,.slice b2 m2 c2]) (λcs=>rfl) (SN h0 ht hi h)
    ·exact h.elim
   ·rename_i t r b1 m1 c1 sv;have h0:tM[0]?=some t:=by cases tM;simp only at DN;subst DN;rfl
    generalize ht:P.underlying t=d at h;split at h
    ·rename_i el;cases hi:P.info? el with
     |none=>simp only[hi,no] at h
     |some i=>
      simp only[hi] at h;cases hb:fe i.size 1 with
      |false=>simp only[hb,cond_false,no] at h
      |true=>
       simp only[hb,cond_true] at h;exact base (Builtin.copy_ tM ty #[.slice b1 m1 c1,.string sv]) (λcs=>rfl) (PR h0 ht hi h)
    ·exact h.elim
   ·rename_i t r b1 m1 c1;have h0:tM[0]?=some t:=by cases tM;simp only at DN;subst DN;rfl
    generalize ht:P.underlying t=d at h;split at h
    ·rename_i el;cases hi:P.info? el with
     |none=>simp only[hi,no] at h
     |some i=>
      simp only[hi] at h;cases hz:i.zero with
      |none=>simp only[hz,no] at h
      |some z=>
       simp only[hz] at h;exact base (Builtin.clear_ tM ty #[.slice b1 m1 c1]) (λcs=>rfl) (SP h0 ht hi hz h)
    ·exact h.elim
   ·rename_i t r b1 m1 c1;have h0:tM[0]?=some t:=by cases tM;simp only at DN;subst DN;rfl
    generalize ht:P.underlying t=d at h;split at h
    ·exact base (Builtin.cap_ tM ty #[.slice b1 m1 c1]) (λcs=>rfl) ⟨_,w,by simp[Builtin.cap_,h0,dR ht,goInt],h⟩
    ·exact h.elim
   ·exact h.elim
def I8{s d:TypeId}{x:Value}(h:A7 P s d x K w):SV P (convert s d x) w K:=by
 unfold A7 at h;cases hs:P.underlying s with
 |none=>simp only[hs,no] at h
 |some sd=>
  simp only[hs] at h;generalize hd:P.underlying d=dd at h;split at h
  ·exact⟨_,_,run_convert_int hs hd _ _ w,h⟩
  ·exact⟨_,_,by cases sd<;>simp[convert,dR hs,dR hd],h⟩
  ·rename_i el b;generalize he:P.underlying el=ed at h;split at h
   ·obtain⟨r,c,w',hr,hk⟩:=VX (P:=P) (e:=el) h;refine⟨_,w',?_,hk⟩;cases sd<;>simp[convert,dR hs,dR hd,dR he,hr]
   ·exact h.elim
  ·rename_i p m c;cases sd<;>simp only[no] at h
   rename_i el;generalize he:P.underlying el=ed at h;split at h
   ·obtain⟨r,hr,hk⟩:=XM (P:=P) (c:=c) h;refine⟨_,w,?_,hk⟩;simp[convert,dR hs,dR hd,dR he,hr]
   ·exact h.elim
  ·exact h.elim
def Dd{t:TypeId}{m:Nat}{ps:List (Nat×Value)}(hh:xv P t m ps K w):SV P (Instr.buildSlice t m ⟨ps⟩) w K:=by
 unfold xv at hh;cases hu:P.underlying t with
 |none=>simp only[hu,no] at hh
 |some d=>
  cases d<;>simp only[hu,no] at hh
  rename_i el;cases hi:P.info? el with
  |none=>simp only[hi,no] at hh
  |some i=>
   simp only[hi] at hh;cases hz:i.zero with
   |none=>simp only[hz,no] at hh
   |some z=>
    simp only[hz] at hh;cases hb:(Nat.ble (m* i.size) 16777216&&Nat.blt 0 i.size&&fe (dJ z).length i.size) with
    |false=>simp only[hb,cond_false,no] at hh
    |true=>
     simp only[hb,cond_true] at hh;simp only[cY] at hb;obtain⟨⟨hb1,Kw⟩,W4⟩:=hb;have h1:m* i.size<=16777216:=aH hb1;have h3:=df W4;cases hc:rS (Builtin.zeroCells ⟨dJ z⟩ m).toList ((mD m).map λj=>(j* i.size,i.size)) 0 0 (ps.map λp=>(p.1,dJ p.2)) with
     |none=>simp only[hc,no] at hh
     |some y=>
      obtain⟨cs,p⟩:=y;simp only[hc] at hh;obtain⟨R1,hk⟩:=hh;have hf:=tK ((mD m).map λj=>(j* i.size,i.size)) (λj=>some (j* i.size,i.size)) (λj x hx=>by
       rw[dC] at hx
       cases hr:(mD m)[j]? with
       |none=>simp[hr] at hx
       |some q=>
        have:q=j:=by
         rw[lz] at hr
         ·exact(bj.inj hr).symm
         ·have:=(ar.1 hr).1;simpa using this
        subst this;simpa [hr] using hx) _ _ 0 0 [] ps cs p rfl rfl (aL _) hc R1
      simp only[dm,oC] at hf;have oI:z.cells=⟨dJ z⟩:=by rw[<-iz]
      have hzz:(⟨dJ z⟩:Array Value).size=i.size:=h3;have adk:((Array.range (m* i.size)).map λx=>(⟨dJ z⟩:Array Value)[x%(⟨dJ z⟩:Array Value).size]!)=Builtin.zeroCells ⟨dJ z⟩ m:=by
       rw[<-hzz];rfl
      refine⟨_,_,?_,hk el⟩;simp only[Instr.buildSlice,Sem.run_bind,dR hu,Result.andThen_ok,run_sizeOf hi];have hn: ¬(m* i.size>2^24):=by omega
      simp only[hn,if_false];by_cases h0:m* i.size=0
      ·have hm:m=0:=by
        rcases Nat.mul_eq_zero.1 h0 with h|h
        ·exact h
        ·rw[h] at Kw;simp at Kw
       subst hm;have hzc:Builtin.zeroCells ⟨dJ z⟩ 0=#[]:=by simp[Builtin.zeroCells]
       rw[hzc] at hf;have WH:∀f:Nat->Value,(Array.range (0* i.size)).map f=#[]:=λf=>by rw[Nat.zero_mul];simp
       simp only[h0,if_true];simp only[Nat.zero_mul] at WH;rw[show ∀z:Array Value,(⟨z.toList⟩:Array Value)=z from λz=>rfl] at hf;simp only[Sem.run_bind,Sem.run_pure,Result.andThen_ok,WH];rw[hf]
       rfl
      ·simp only[h0,if_false,Sem.run_bind,zeroValue,typeInfo,run_program,hi,hz,Result.andThen_ok,Sem.run_pure,oI,adk];rw[show ∀z:Array Value,(⟨z.toList⟩:Array Value)=z from λz=>rfl] at hf;rw[hf]
       rfl
end
section
variable {P:Program} {K:VK} {w:World} {T:CQ} {E:Qw} {n:Nat} {e:Env} {a:Act}
def Pure.of_eq{s:Sem Next}(v:Value)(h:s=pure (.value v))(hk:K v w):Pure P s w K:=⟨v,λw'=>by rw[h];rfl,hk⟩
def E7(hs:Sub n e a){c:Call}{ty:TypeId}(hc:cls P (.call c)=0)(h:yW P T e c ty K w):Pure P (do let d<-resolve a.eval c ty;invoke d.target d.args) w K:=by
 obtain⟨callee,args,tM⟩:=c;unfold yW at h;cases wU:Mi e args.toList with
 |none=>simp only[wU,no] at h
 |some vs=>
  simp only[wU] at h;have Ph:=hs.EZ wU;cases callee with
  |invoke r m=>simp only[no] at h
  |value f=>simp[cls] at hc
  |builtin b=>
   simp only at h;have base:∀s:Sem Value,(∀cs,builtin b tM ty cs ⟨vs⟩=(do pure (.value (<-s))))->PV P s w K->Pure P (do let d<-resolve a.eval ⟨.builtin b,args,tM⟩ ty;invoke d.target d.args) w K:=by
    intro s hbs hsv;have:=PV.pure hsv;have e1:(do let d<-resolve a.eval ⟨.builtin b,args,tM⟩ ty;invoke d.target d.args:Sem Next)=(do pure (.value (<-s))):=by
     rw[<-hbs (args.map λ| .const _=>true|_=>false)];simp only[resolve,Ph,invoke]
     rfl
    rw[e1];exact this
   unfold xu at h;generalize DN:tM.toList=ts at h;split at h
   ·rename_i t r x
    replace h:B3 P t x K w:=by
     cases hu:P.underlying t with
     |none=>simpa only[hu] using h
     |some u=>cases u<;>first|simpa only[hu] using h|simp[cls,DN,hu] at hc
    exact base (Builtin.len_ tM ty #[x]) (λcs=>rfl) (DK (t:=t) (.inr ⟨r,DN⟩) h)
   ·rename_i k x r;cases hm:nQ x r with
    |none=>simp only[hm,no] at h
    |some m=>
     simp only[hm] at h;exact base (Builtin.min_ tM ty ⟨.int k x::r⟩) (λcs=>rfl) ⟨_,zw hm,h⟩
   ·rename_i k x r;cases hm:B1 x r with
    |none=>simp only[hm,no] at h
    |some m=>
     simp only[hm] at h;exact base (Builtin.max_ tM ty ⟨.int k x::r⟩) (λcs=>rfl) ⟨_,DI hm,h⟩
   ·simp[cls] at hc
   ·simp[cls] at hc
   ·simp[cls] at hc
   ·simp[cls] at hc
   ·simp[cls] at hc
   ·exact h.elim
def BV(hE:pH P E)(hs:Sub n e a){o:Oper}(hc:cls P o.op=0)(h:vz P T E e o.op o.type K w):Pure P (execOp a.eval o) w K:=by
 obtain⟨dst,op,ty,pos,after,guard⟩:=o;simp only at hc h;cases op<;>simp[cls] at hc<;>simp only[vz] at h
 case move x=>
  cases hx:ev e x with
  |none=>simp only[hx,no] at h
  |some v=>simp only[hx] at h;exact .of_eq v (by simp only[execOp,hs.eval hx]) h
 case assign x=>
  cases hx:ev e x with
  |none=>simp only[hx,no] at h
  |some v=>simp only[hx] at h;exact .of_eq v (by simp only[execOp,hs.eval hx]) h
 case pick c x y=>
  cases hx:ev e c with
  |none=>simp only[hx,no] at h
  |some v=>
   cases v<;>simp only[hx,no] at h
   rename_i b;cases b with
   |true=>
    simp only[br] at h;cases hy:ev e x with
    |none=>simp only[hy,no] at h
    |some u=>simp only[hy] at h;exact .of_eq u (by simp only[execOp,hs.eval hx,hs.eval hy,asBool,pure_bind,if_true]) h
   |false=>
    simp only[br] at h;cases hy:ev e y with
    |none=>simp only[hy,no] at h
    |some u=>simp only[hy] at h;exact .of_eq u (by simp only[execOp,hs.eval hx,hs.eval hy,asBool,pure_bind,cn,if_false]) h
 case nilCheck x=>
  cases hx:ev e x with
  |none=>simp only[hx,no] at h
  |some v=>
   simp only[hx] at h;unfold TT at h;split at h
   ·rename_i p;cases p with
    |none=>exact h.elim
    |some p=>simp only[nn] at h;exact .of_eq _ (by simp only[execOp,hs.eval hx]) h
   ·exact .of_eq _ (by simp only[execOp,hs.eval hx]) h
   ·exact h.elim
 case binOp op t x y u=>
  cases hx:ev e x with
  |none=>simp only[hx,no] at h
  |some v=>
   cases hy:ev e y with
   |none=>simp only[hx,hy,no] at h
   |some u=>
    simp only[hx,hy] at h;simp only[execOp,hs.eval hx,hs.eval hy];exact PV.pure (MH hE h)
 case unOp op t x=>
  cases hx:ev e x with
  |none=>simp only[hx,no] at h
  |some v=>
   simp only[hx] at h;simp only[execOp,hs.eval hx];exact PV.pure (NI h)
 case makeFunc fn first cap=>
  cases hx:Mi e first.toList with
  |none=>simp only[hx,no] at h
  |some f=>
   cases hy:Mi e cap.toList with
   |none=>simp only[hx,hy,no] at h
   |some c=>
    simp only[hx,hy] at h;simp only[execOp,hs.EZ hx,hs.EZ hy];exact PV.pure ⟨_,λw'=>rfl,h⟩
 case slice t x lo hi mx=>
  cases mx with
  |some mx=>
   cases lo with
   |none=>simp only[no] at h
   |some lo=>
    cases hi with
    |none=>simp only[no] at h
    |some hi=>
     simp only at h;cases hx:ev e x with
     |none=>simp only[hx,no] at h
     |some v=>
      cases v<;>simp only[hx,no] at h
      rename_i p;cases p with
      |none=>exact h.elim
      |some p=>
       cases hl:ev e lo with
       |none=>simp only[hl,no] at h
       |some lv=>
        cases lv<;>simp only[hl,no] at h
        cases hh:ev e hi with
        |none=>simp only[hh,no] at h
        |some hv=>
         cases hv<;>simp only[hh,no] at h
         cases hm:ev e mx with
         |none=>simp only[hm,no] at h
         |some mv=>
          cases mv<;>simp only[hm,no] at h
          simp only[execOp,hs.eval hx,so,hs.eval hl,hs.eval hh,hs.eval hm];exact PV.pure (La h)
  |none=>
   simp only at h;cases hx:ev e x with
   |none=>simp only[hx,no] at h
   |some v=>
    cases hl:QW e lo with
    |none=>simp only[hx,hl,no] at h
    |some l=>
     cases hh:QW e hi with
     |none=>simp only[hx,hl,hh,no] at h
     |some u=>
      simp only[hx,hl,hh] at h;simp only[execOp,hs.eval hx];exact PV.pure (F2 (hs.QW hl) (hs.QW hh) h)
 case fieldAddr t x f=>
  cases hx:ev e x with
  |none=>simp only[hx,no] at h
  |some v=>
   simp only[hx] at h;simp only[execOp,hs.eval hx];exact PV.pure (AL h)
 case field t x f=>
  cases hx:ev e x with
  |none=>simp only[hx,no] at h
  |some v=>
   simp only[hx] at h;simp only[execOp,hs.eval hx];exact PV.pure (GU h)
 case indexAddr t x i=>
  cases hx:ev e x with
  |none=>simp only[hx,no] at h
  |some v=>
   cases hy:ev e i with
   |none=>simp only[hx,hy,no] at h
   |some j=>
    simp only[hx,hy] at h;simp only[execOp,hs.eval hx,hs.eval hy];exact PV.pure (AI h)
 case index t x i=>
  cases hx:ev e x with
  |none=>simp only[hx,no] at h
  |some v=>
   cases hy:ev e i with
   |none=>simp only[hx,hy,no] at h
   |some j=>
    simp only[hx,hy] at h;simp only[execOp,hs.eval hx,hs.eval hy];exact PV.pure (GC h)
 case extract x i=>
  cases hx:ev e x with
  |none=>simp only[hx,no] at h
  |some v=>
   cases v<;>simp only[hx,no] at h
   rename_i vs;cases hv:vs[i]? with
   |none=>simp only[hv,no] at h
   |some u=>
    simp only[hv] at h;simp only[execOp,hs.eval hx];exact PV.pure ⟨u,λw'=>by simp[Instr.extract,hv],h⟩
 case build t ps=>
  cases hx:E0 e ps.toList with
  |none=>simp only[hx,no] at h
  |some l=>
   simp only[hx] at h;have hm:(ps.map λ(i,x)=>(i,a.eval x))=⟨l⟩:=by
    have:=hs.IU hx;apply rv;rw[AB];exact this
   simp only[execOp,hm];exact PV.pure (Hi h)
 case convert s d x=>
  cases hx:ev e x with
  |none=>simp only[hx,no] at h
  |some v=>
   simp only[hx] at h;simp only[execOp,hs.eval hx];cases hd:P.underlying d with
   |none=>simp[hd] at hc
   |some dd=>
    cases dd<;>simp[hd] at hc
    unfold A7 at h;cases WE:P.underlying s with
    |none=>simp only[WE,no] at h
    |some sd=>
     simp only[WE,hd] at h;cases v<;>simp only[no] at h
     exact PV.pure ⟨_,λw'=>run_convert_int WE hd _ _ w',h⟩
 case call c=>
  simp only[execOp];exact E7 hs (by simp only[cls];exact hc) h
def BU(hE:pH P E)(hT:kN P T)(hs:Sub n e a){o:Oper}(h:vz P T E e o.op o.type K w):To P (execOp a.eval o) w K:=by
 by_cases hc:cls P o.op=0
 ·exact(BV hE hs hc h).toX
 obtain⟨dst,op,ty,pos,after,guard⟩:=o;simp only at hc h;cases op<;>simp[cls] at hc<;>simp only[vz,no] at h
 case alloc t=>
  cases hz:zeroOf P t with
  |none=>simp only[hz,no] at h
  |some z=>
   simp only[hz] at h;cases hsf:Du P t with
   |true=>rw[hsf] at h;exact SV.toX (MM hz h)
   |false=>rw[hsf] at h;exact SV.toX (Qa hz h)
 case box t x=>
  cases hx:ev e x with
  |none=>simp only[hx,no] at h
  |some v=>
   simp only[hx] at h;simp only[execOp,hs.eval hx];exact SV.toX (Zb h v rfl)
 case buildSlice t m ps=>
  cases hx:E0 e ps.toList with
  |none=>simp only[hx,no] at h
  |some l=>
   simp only[hx] at h;have hm:(ps.map λ(i,x)=>(i,a.eval x))=⟨l⟩:=by
    have:=hs.IU hx;apply rv;rw[AB];exact this
   simp only[execOp,hm];exact SV.toX (Dd h)
 case load t x=>
  cases hx:ev e x with
  |none=>simp only[hx,no] at h
  |some v=>
   cases v<;>simp only[hx,no] at h
   rename_i p;cases p with
   |none=>exact h.elim
   |some p=>
    simp only at h;simp only[execOp,hs.eval hx];obtain⟨v,cs,hH,hr,hk⟩:=uo h;exact SV.toX ⟨v,w,by simp[Instr.loadAt,Instr.sureAddr,hr w hH],hk⟩
 case store t x y=>
  cases hx:ev e x with
  |none=>simp only[hx,no] at h
  |some v=>
   cases hy:ev e y with
   |none=>cases v<;>simp only[hx,hy,no] at h
   |some u=>
    cases v<;>simp only[hx,hy,no] at h
    rename_i p;cases p with
    |none=>exact h.elim
    |some p=>
     simp only at h;simp only[execOp,hs.eval hx,hs.eval hy];obtain⟨w',hr,hk⟩:=CW h;exact .inr (.inl ⟨w',by simp[Instr.storeAt,Instr.sureAddr,hr],hk⟩)
 case convert s d x=>
  cases hx:ev e x with
  |none=>simp only[hx,no] at h
  |some v=>
   simp only[hx] at h;simp only[execOp,hs.eval hx];exact SV.toX (I8 h)
 case makeSlice t m c=>
  cases hu:P.underlying t with
  |none=>simp only[hu,no] at h
  |some d=>
   cases hx:ev e m with
   |none=>cases d<;>simp only[hu,hx,no] at h
   |some mv=>
    cases hy:ev e c with
    |none=>cases d<;>simp only[hu,hx,hy,no] at h
    |some cv=>
     cases d<;>simp only[hu,hx,hy,no] at h
     cases mv<;>(try simp only[no] at h)
     cases cv<;>simp only[no] at h
     rename_i el k1 mi k2 ci;cases hi:P.info? el with
     |none=>simp only[hi,no] at h
     |some i=>
      simp only[hi] at h;cases hz:i.zero with
      |none=>simp only[hz,no] at h
      |some z=>
       simp only[hz] at h;cases hb:(Nat.blt 0 i.size&&fe (dJ z).length i.size) with
       |false=>simp only[hb,cond_false,no] at h
       |true=>
        simp only[hb,cond_true] at h;simp only[cY] at hb;simp only[execOp,hs.eval hx,hs.eval hy];exact SV.toX (RM hu hi hz (df hb.2) h)
 case call c=>
  simp only[execOp];exact Ja hT hs h
 case makeMap t r=>
  cases r with
  |some _=>simp only[no] at h
  |none=>
   simp only at h;simp only[execOp];exact SV.toX ⟨_,_,rfl,h⟩
 case lookup t m k co=>
  cases co with
  |true=>simp only[no] at h
  |false=>
   simp only at h;cases hx:ev e m with
   |none=>simp only[hx,no] at h
   |some mv=>
    cases hy:ev e k with
    |none=>simp only[hx,hy,no] at h
    |some kv=>
     cases hu:P.underlying t with
     |none=>simp only[hx,hy,hu,no] at h
     |some d=>
      cases d<;>simp only[hx,hy,hu,no] at h
      rename_i kt el;cases hz:zeroOf P el with
      |none=>simp only[hz,no] at h
      |some z=>
       simp only[hz] at h;obtain⟨v,hr,hk⟩:=h;simp only[execOp,hs.eval hx,hs.eval hy];exact SV.toX ⟨v,w,hr,pY hk⟩
 case mapUpdate t m k v=>
  cases hx:ev e m with
  |none=>simp only[hx,no] at h
  |some mv=>
   cases hy:ev e k with
   |none=>simp only[hx,hy,no] at h
   |some kv=>
    cases hz:ev e v with
    |none=>simp only[hx,hy,hz,no] at h
    |some vv=>
     simp only[hx,hy,hz] at h;obtain⟨w',hr,hk⟩:=h;simp only[execOp,hs.eval hx,hs.eval hy,hs.eval hz];exact .inr (.inl ⟨w',by simp[hr],hk⟩)
end
def S2(F:Fn)(e:Env)(a:Act):Prop:=Sub F.n e a/\Sub F.n F.C a
def QS(F:Fn)(Q:Exit->Env->WK):Exit->Act->World->Prop:=λex a w=>(∃e,S2 F e a/\Q ex e w)/\∀c,ex≠.panic c
structure Ok(F:Fn):Prop where
 Dn:kN F.P F.T
 eqs:pH F.P F.E
 mixed:F.P.follows .mixedOrders=true
section
variable {F:Fn} {P:Program} {w:World} {e:Env} {a:Act} {ops:Array Oper}
def Qo{Q:Exit->Env->WK}{c:List PanicEntry}{a:Act}{w:World}: ¬QS F Q (.panic c) a w:=λh=>h.2 c rfl
def rK{d:Option Tmp}{v:Value}{K:Env->WK}(hs:S2 F e a)(h:pt F.n F.C e d v K w):∃e',S2 F e' (a.put d v)/\K e' w:=by
 cases d with
 |none=>exact⟨e,hs,h⟩
 |some d=>
  simp only[pt] at h;cases hb:(Nat.blt d F.n&&cover F.C d) with
  |false=>simp only[hb,cond_false,no] at h
  |true=>
   simp only[hb,cond_true] at h;simp only[cY] at hb;have L0:=hs.1.put (by have:=hb.1;rwa[Nat.blt_eq] at this) v;refine⟨_,⟨L0,L0.size,L0.defers,λt u ht=>?_⟩,h⟩;have hZ:d≠t:=λhd=>by
    subst hd;have:=hb.2;simp only[cover,ht,cn] at this
   simp only[Act.put];rw[Array.getElem?_setIfInBounds_ne hZ];exact hs.2.get t u ht
def FE{o:Oper}{K:VK}{next:Act->World->Prop}{Q:Exit->Act->World->Prop}(h:To P (execOp a.eval o) w K)(hk:∀v w',K v w'->next (a.put o.dst v) w'):o.wp P a w next Q:=by
 unfold Oper.wp;rcases h with⟨v,w',hr,h⟩|⟨w',hr,h⟩|⟨g,args,w',hr,h⟩
 ·rw[hr];exact hk _ _ h
 ·rw[hr];exact hk _ _ h
 ·rw[hr];refine Calls.mono h λe YF ⟨v,he,hv⟩=>?_;subst he;exact hk _ _ hv
def Pt{j:Nat}{d:Tmp}{b:Bool}(hd:Mc ops j=some d)(h:lk e d=some (.bool b)){n:Nat}(hs:Sub n e a):yielded ops a.tmps j=some b:=by
 unfold Mc at hd;unfold yielded;cases ho:ops[j]? with
 |none=>simp[ho] at hd
 |some o=>
  simp only[ho] at hd;simp only[Option.bind_some,hd,hs.get _ _ h]
def Ee(a b:Bool):Ji a b=(a==b):=by cases a<;>cases b<;>rfl
def ql{o:Oper}{run skip:Env->WK}{X:Prop}(hs:S2 F e a)(h:guarded ops o e run skip w)
 (hr:∀e',S2 F e' a->Region.wanted o (yielded ops a.tmps)=true->run e' w->X)
 (hk:∀e',S2 F e' a->Region.wanted o (yielded ops a.tmps)=false->skip e' w->X):X:=by
 unfold guarded at h;cases hg:o.guard with
 |none=>
  simp only[hg] at h;exact hr e hs (by simp[Region.wanted,hg]) h
 |some jw=>
  obtain⟨j,want⟩:=jw;simp only[hg] at h;cases hd:Mc ops j with
  |none=>simp only[hd,no] at h
  |some d=>
   simp only[hd] at h;cases hl:lk e d with
   |none=>simp only[hl,no] at h
   |some v=>
    cases v<;>simp only[hl,no] at h
    case tuple vs=>
     refine hk e hs ?_ h;have:yielded ops a.tmps j=none:=by
      unfold Mc at hd;unfold yielded;cases ho:ops[j]? with
      |none=>simp[ho] at hd
      |some o=>
       simp only[ho] at hd;simp only[Option.bind_some,hd,hs.1.get _ _ hl]
     simp only[Region.wanted,hg,this]
     rfl
    rename_i b;have hy:=Pt hd hl hs.1;have Fz:S2 F _ a:=⟨hs.1.again hl,hs.2⟩;have hw:Region.wanted o (yielded ops a.tmps)=(b==want):=by
     simp only[Region.wanted,hg,hy];cases b<;>cases want<;>rfl
    cases b with
    |true=>
     simp only[br,Ee] at h;cases hb:(true==want) with
     |true=>simp only[hb,cond_true] at h;exact hr _ Fz (by rw[hw,hb]) h
     |false=>simp only[hb,cond_false] at h;exact hk _ Fz (by rw[hw,hb]) h
    |false=>
     simp only[br,Ee] at h;cases hb:(false==want) with
     |true=>simp only[hb,cond_true] at h;exact hr _ Fz (by rw[hw,hb]) h
     |false=>simp only[hb,cond_false] at h;exact hk _ Fz (by rw[hw,hb]) h
def wO{o:Oper}{K:Env->WK}(h:TQ F ops o K e w):
 guarded ops o e (λe=>vz F.P F.T F.E e o.op o.type λv=>pt F.n F.C e o.dst v K) (λe=>pt F.n F.C e o.dst undef K) w:=h
def xW(hF:Ok F){Q:Exit->Act->World->Prop}{K:Env->WK}(hK:∀e a w,S2 F e a->K e w->Q .normal a w):
 ∀(l:List Nat)(os:List Oper)(e:Env)(a:Act)(w:World),l.length=os.length->(∀k i:Nat,l[k]?=some i->ops[i]?=os[k]?)->S2 F e a->vm F ops os K e w->wpOps F.P ops Q l a w
 |[],[],e,a,w,_,_,hs,h=>hK e a w hs h
 |[],_::_,_,_,_,hl,_,_,_=>by simp at hl
 |_::_,[],_,_,_,hl,_,_,_=>by simp at hl
 |i::l,o::os,e,a,w,hl,hi,hs,h=>by
  have hio:ops[i]?=some o:=hi 0 i rfl;have rest:=λe a w=>xW hF hK l os e a w (by simpa using hl) (λ(k j:Nat)(hk:l[k]?=some j)=>hi (k+1) j (by simpa using hk));rw[wpOps_cons];unfold wpOp;simp only[hio];refine ql (F:=F) hs (wO h) (λe' dM hw hr=>?_) (λe' dM hw hr=>?_)
  ·rw[aj hw];refine .inl (FE (BU hF.eqs hF.Dn dM.1 hr) λv w' hv=>?_);obtain⟨PD,uX,hk⟩:=rK dM hv;exact rest _ _ _ uX hk
  ·rw[ah (by rw[hw];exact py)];obtain⟨PD,uX,hk⟩:=rK dM hr;exact rest _ _ _ uX hk
abbrev SL:=List (Nat×(World->Prop))
def uO(o:Oper)(S:SL):SL:=S.filter λp=> !waits o p.1
def wpAnyS(P:Program)(ops:Array Oper)(Q:Exit->Act->World->Prop):Nat->SL->Array Bool->Act->World->Prop
 |0,_,listed,a,w=>Region.ready .any ops listed=[]/\Q .normal a w
 |fuel+1,S,listed,a,w=>
  (Region.ready .any ops listed=[]->Q .normal a w)/\
  ∀i∈Region.ready .any ops listed,∀o,ops[i]?=some o->wpOp P ops Q i (λa' w'=>(∀p∈uO o S,p.2 w')/\wpAnyS P ops Q fuel (uO o S) (listed.setIfInBounds i true) a' w') a w
def Bp{Q:Exit->Act->World->Prop}:∀(fuel:Nat)(S:SL)(listed:Array Bool)(a:Act)(w:World),wpAnyS P ops Q fuel S listed a w->wpAny P .any ops Q fuel listed a w
 |0,_,_,_,_,h=>h
 |fuel+1,S,listed,a,w,h=>⟨h.1,λi hi=>by
                          obtain⟨_,o,ho,_⟩:=mem_ready.1 hi
                          exact wpOp_mono (λa' w' h'=>Bp fuel _ _ a' w' h'.2) (h.2 i hi o ho)⟩
def qo{Q:Exit->Act->World->Prop}:∀(fuel:Nat)(S S':SL)(listed:Array Bool)(a:Act)(w:World),(∀p∈S',p∈S\/∀w,p.2 w)->wpAnyS P ops Q fuel S listed a w->wpAnyS P ops Q fuel S' listed a w
 |0,_,_,_,_,_,_,h=>h
 |fuel+1,S,S',listed,a,w,WA,h=>⟨h.1,λi hi o ho=>by
                                have hs:∀p∈uO o S',p∈uO o S\/∀w,p.2 w:=λp hp=>by
                                 simp only[uO,List.mem_filter] at hp⊢
                                 exact(WA _ hp.1).imp (λh=>⟨h,hp.2⟩) id
                                exact wpOp_mono (λa' w' h'=>⟨λp hp=>(hs p hp).elim (h'.1 p) (λh=>h w'),qo fuel _ _ _ a' w' hs h'.2⟩) (h.2 i hi o ho)⟩
def wpAnyS_first{Q:Exit->Act->World->Prop}{i:Nat}{oi:Oper}{v:Value}{Y:World->Prop}(hi:ops[i]?=some oi)(zC:∀(j:Nat)(o:Oper) cs b,ops[j]?=some o->o.op≠.select cs b)
 (hQ:∀c a w,Q (.panic c) (a.put oi.dst v) w->Q (.panic c) a w):
 ∀(fuel:Nat)(S:SL)(listed:Array Bool)(a:Act)(w:World),
  (∀j oj,ops[j]?=some oj->j≠i->listed.getD j true=false->(∀e∈oj.after,Region.binds .any e=true->e.on≠i)->oi.apart ops oj=true)->
  i∈Region.ready .any ops listed->YieldsIf P ops Y oi v a->Y w->(∀p∈S,p.2 w)->
  wpAnyS P ops Q fuel ((i,Y)::S) (listed.setIfInBounds i true) (a.put oi.dst v) w->wpAnyS P ops Q (fuel+1) S listed a w:=by
 intro fuel
 induction fuel with
 |zero=>
  intro S listed a w _ hr hy hY hS H;refine⟨λh=>(by rw[h] at hr;cases hr),λj hj o ho=>?_⟩;by_cases GL:j=i
  ·subst GL;rw[hi] at ho;cases ho
   exact hy.wpOp hi hY ⟨λp hp=>hS p (List.mem_filter.1 hp).1,H⟩
  ·have:=ready_mono hj GL;rw[H.1] at this;cases this
 |succ fuel ih=>
  intro S listed a w DS hr hy hY hS H;refine⟨λh=>(by rw[h] at hr;cases hr),λj hj o ho=>?_⟩;by_cases GL:j=i
  ·subst GL;rw[hi] at ho;cases ho
   refine hy.wpOp hi hY ⟨λp hp=>hS p (List.mem_filter.1 hp).1,?_⟩;exact qo _ _ _ _ _ _ (λp hp=>.inl (qN _ (List.mem_filter.1 hp).1)) H
  ·have h1:=H.2 j (ready_mono hj GL) o ho;obtain⟨ZJ,oj,hoj,gV⟩:=mem_ready.1 hj;rw[ho] at hoj;cases hoj
   have hun:=(mem_ready.1 hr).1;have ZB:∀e∈o.after,Region.binds .any e=true->e.on≠i:=λe he hb heq=>by
    have h1:=gV e he hb;have h0:=hun;rw[heq] at h1;rcases Nat.lt_or_ge i listed.size with h'|h'
    ·simp[h'] at h0 h1;rw[h0] at h1;cases h1
    ·simp[Array.getElem?_eq_none h'] at h1
   have hnw:waits o i=false:=by
    cases hw:waits o i with
    |false=>rfl
    |true=>
     simp only[waits,Array.any_eq_true'] at hw;obtain⟨e,he,hb⟩:=hw;simp only[cY] at hb;exact aR (df hb.2) (ZB e he hb.1)
   have ZX:uO o ((i,Y)::S)=(i,Y)::uO o S:=by simp[uO,hnw]
   rw[ZX] at h1;have h2:=wpOp_putIf ho (DS j o ho GL ZJ ZB) (λcs b=>zC i oi cs b hi) (λcs b=>zC j o cs b ho) hQ hy h1;have WU:∀k ok,ops[k]?=some ok->k≠i->(listed.setIfInBounds j true).getD k true=false->
      (∀e∈ok.after,Region.binds .any e=true->e.on≠i)->oi.apart ops ok=true:=λk ok hk WS hun ET=>by
    refine DS k ok hk WS ?_ ET;by_cases hjk:j=k
    ·subst hjk;exact ZJ
    ·rw[getD_set_ne true hjk] at hun;exact hun
   refine wpOp_mono (λa' w' h3=>?_) h2;have hY':Y w':=h3.2.1 (i,Y) (by simp);have hS':∀p∈uO o S,p.2 w':=λp hp=>h3.2.1 p (by simp[hp]);refine⟨hS',ih (uO o S) (listed.setIfInBounds j true) a' w' WU (ready_mono hr (Ne.symm GL)) h3.1 hY' hS' ?_⟩;rw[Array.setIfInBounds_comm _ _ GL];exact h3.2.2
def YS(S:AO):SL:=S.map λp=>(p.1,λw=>uQ w p.2.1 p.2.2)
def Qg(o:Oper)(S:AO):YS (stays o S)=uO o (YS S):=by
 induction S with
 |nil=>rfl
 |cons p S ih=>
  simp only[YS,stays,uO,fq,List.filter_cons] at ih⊢;cases waits o p.1<;>simp[ih]
def GB:∀{S:AO} {K:WK} {w:World},pQ S K w->(∀p∈YS S,p.2 w)/\K w
 |[],_,_,h=>⟨by simp[YS],h⟩
 |(i,b,cs)::S,K,w,h=>by
  obtain⟨h1,h2⟩:=h;obtain⟨h3,h4⟩:=GB h2;refine⟨λp hp=>?_,h4⟩;simp only[YS,fq,gK] at hp;rcases hp with rfl|hp
  ·exact h1
  ·exact h3 p hp
def Hq:∀{l:List Nat} {f:Nat->WK} {w:World},XQ l f w->∀i∈l,f i w
 |[],_,_,_,i,hi=>by simp at hi
 |[j],f,w,h,i,hi=>by simp at hi;subst hi;exact h
 |j::k::r,f,w,h,i,hi=>by
  rcases gK.1 hi with rfl|hi
  ·exact h.1
  ·exact Hq (l:=k::r) h.2 i hi
def OE(hE:pH F.P F.E)(hs:Sub F.n e a){i:Nat}{o:Oper}{S:AO}{K:AO->VK}(hq:Nat.blt (cls F.P o.op) 2=true)(h:Rw F e i o S K w)(hS:∀p∈YS S,p.2 w):
 ∃v Y S',(∀w',Y w'->(execOp a.eval o).run F.P w'=.ok (.value v) w')/\Y w/\K S' v w/\(∀p∈YS S',p.2 w)/\(∀p∈(i,Y)::YS S,p∈YS S'\/∀w,p.2 w):=by
 rw[Nat.blt_eq] at hq;by_cases hc:cls F.P o.op=0
 ·have:vz F.P F.T F.E e o.op o.type (K S) w:=by
   unfold Rw at h;generalize T5:o.op=op at h;split at h
   ·rw[T5] at hc;simp[cls] at hc
   ·exact h
  obtain⟨v,hr,hk⟩:=BV hE hs hc this;exact⟨v,λ_=>True,S,λw' _=>hr w',trivial,hk,hS,λp hp=>by
   rcases gK.1 hp with rfl|hp
   ·exact .inr λ_=>trivial
   ·exact .inl hp⟩
 ·have h1:cls F.P o.op=1:=by omega
  obtain⟨dst,op,ty,pos,after,guard⟩:=o;simp only at h1;have:∃t x,op=.load t x:=by
   cases op<;>simp only[cls] at h1<;>first
    |exact⟨_,_,rfl⟩
    |(exfalso;omega)
    |(exfalso;revert h1;split<;>omega)
    |(exfalso;revert h1;split<;>(try split)<;>omega)
    |(exfalso;revert h1;repeat' split
      all_goals omega)
  obtain⟨t,x,rfl⟩:=this;simp only[Rw] at h;cases hx:ev e x with
  |none=>simp only[hx,no] at h
  |some v=>
   cases v<;>simp only[hx,no] at h
   rename_i p;cases p with
   |none=>exact h.elim
   |some p=>
    simp only at h;obtain⟨v,cs,hH,hr,hk⟩:=uo h;refine⟨v,λw'=>uQ w' p cs,(i,p,cs)::S,λw' Nj=>?_,hH,hk,λq hq=>?_,λq hq=>.inl (by simpa [YS] using hq)⟩
    ·simp only[execOp,hs.eval hx];simp[Instr.loadAt,Instr.sureAddr,hr w' Nj]
    ·simp only[YS,fq,gK] at hq;rcases hq with rfl|hq
     ·exact hH
     ·exact hS q hq
def nW(hF:Ok F)(zC:Region.noSelect ops=true){Q:Exit->Act->World->Prop}(hQ:∀c a w,¬Q (.panic c) a w){K:Env->WK}(hK:∀e a w,S2 F e a->K e w->Q .normal a w):
 ∀(f:Nat)(listed:Array Bool)(S:AO)(e:Env)(a:Act)(w:World),S2 F e a->(∀p∈YS S,p.2 w)->sA F ops K f listed S e w->wpAnyS F.P ops Q f (YS S) listed a w
 |0,listed,S,e,a,w,hs,hS,h=>by
  simp only[sA] at h;cases hr:Region.ready .any ops listed with
  |nil=>simp only[hr] at h;exact⟨hr,hK e a w hs h⟩
  |cons r rs=>simp only[hr,no] at h
 |f+1,listed,S,e,a,w,hs,hS,h=>by
  simp only[sA] at h;cases hr:Region.ready .any ops listed with
  |nil=>
   simp only[hr] at h;exact⟨λ_=>hK e a w hs h,λi hi=>by rw[hr] at hi;simp at hi⟩
  |cons r rs=>
   simp only[hr] at h;cases hf:(r::rs).find? (quietAt F.P ops) with
   |some i=>
    simp only[hf] at h;have qJ:i∈Region.ready .any ops listed:=by rw[hr];exact jW hf
    have Pe:=List.find?_some hf;cases ho:ops[i]? with
    |none=>simp only[ho,no] at h
    |some o=>
     simp only[ho] at h;simp only[quietAt,ho] at Pe;cases DS:Region.free .any ops listed i with
     |false=>simp only[DS,cond_false,no] at h
     |true=>
      simp only[DS,cond_true] at h;have DR:=Region.free_spec ho DS;refine ql (F:=F) hs h (λe' dM hw rN=>?_) (λe' dM hw rN=>?_)
      ·obtain⟨v,Y,S',hy,hY,hk,hS',WA⟩:=OE hF.eqs dM.1 Pe rN hS;obtain⟨PD,uX,hk⟩:=rK dM hk;have ih:=nW hF zC hQ hK f _ S' PD _ w uX hS' hk;exact wpAnyS_first ho (Region.noSelect_spec zC) (λc a w h=>(hQ _ _ _ h).elim) f (YS S) listed a w DR qJ (.inl ⟨hw,hy⟩) hY hS (qo _ _ _ _ _ _ WA ih)
      ·obtain⟨PD,uX,hk⟩:=rK dM rN;have ih:=nW hF zC hQ hK f _ S PD _ w uX hS hk;refine wpAnyS_first (Y:=λ_=>True) ho (Region.noSelect_spec zC) (λc a w h=>(hQ _ _ _ h).elim) f (YS S) listed a w DR qJ (.inr ⟨hw,rfl⟩) trivial hS
        (qo _ _ _ _ _ _ (λp hp=>by
         rcases gK.1 hp with rfl|hp
         ·exact .inr λ_=>trivial
         ·exact .inl hp) ih)
   |none=>
    simp only[hf] at h;refine⟨λh0=>(by rw[hr] at h0;cases h0),λi hi o ho=>?_⟩;have sj:=Hq h i (by rw[<-hr];exact hi);simp only[ho] at sj;unfold wpOp;simp only[ho];refine ql (F:=F) hs sj (λe' dM hw rN=>?_) (λe' dM hw rN=>?_)
    ·rw[aj hw];refine .inl (FE (BU hF.eqs hF.Dn dM.1 rN) λv w' hv=>?_);obtain⟨hk,hv⟩:=GB hv;obtain⟨PD,uX,Aj⟩:=rK dM hv;rw[<-Qg];exact⟨hk,nW hF zC hQ hK f _ _ PD _ w' uX hk Aj⟩
    ·rw[ah (by rw[hw];exact py)];obtain⟨PD,uX,Aj⟩:=rK dM rN;have ih:=nW hF zC hQ hK f _ S PD _ w uX hS Aj;refine⟨λp hp=>hS p (List.mem_filter.1 hp).1,qo _ _ _ _ _ _ (λp hp=>.inl (List.mem_filter.1 hp).1) ih⟩
def kJ{n:Nat}{e:Env}{a:Act}(hs:Sub n e a):∀{l:List (Nat×Value)} {vs:LV},tp e l=some vs->
 (∀t v,lk (xH l vs []) t=some v->a.tmps[t]?=some v)/\vs=l.map (λp=>a.tmps.getD p.1 undef)/\(∀f,CB (l.map (·.2)) f->f vs)
 |[],vs,h=>by
  simp only[tp,bj.injEq] at h;subst h;exact⟨λt v h=>by simp[xH,lk] at h,rfl,λf h=>h⟩
 |(t,z)::l,vs,h=>by
  simp only[tp] at h;cases h1:lk e t with
  |none=>simp[h1] at h
  |some v=>
   simp only[h1] at h;cases h2:fits z v with
   |false=>simp[h2] at h
   |true=>
    simp only[h2,cond_true] at h;cases h3:tp e l with
    |none=>simp[h3] at h
    |some us=>
     simp only[h3,bj.injEq] at h;subst h;obtain⟨i1,i2,i3⟩:=kJ hs h3;refine⟨λs u hsu=>?_,?_,λf hf=>?_⟩
     ·simp only[xH,uq] at hsu;split at hsu
      ·rename_i DN;subst DN;cases hsu;exact hs.get _ _ h1
      ·exact i1 s u hsu
     ·simp only[fq,<-i2];have:=hs.get t v h1;rw[Array.getD_eq_getD_getElem?,this];rfl
     ·simp only[fq,CB] at hf;have key:CB (l.map (·.2)) λvs=>f (v::vs):=by
       cases z<;>cases v<;>simp only[fits,cn,decide_eq_true_eq] at h2<;>simp only[ab8] at hf<;>first
        |(rename_i p q;cases p<;>cases q<;>simp only[fits,cn] at h2<;>exact hf _)
        |exact hf _
        |exact hf _ _ _
        |(subst h2;exact hf _)
        |(rename_i cs;exact hf cs.toList)
      exact i3 _ key
def Kf:∀(l:List (Nat×Value))(vs:LV)(C:Env)(t:Nat)(v:Value),lk (xH l vs C) t=some v->lk (xH l vs []) t=some v\/lk C t=some v
 |[],vs,C,t,v,h=>by cases vs<;>(simp only[xH] at h;exact .inr h)
 |(s,z)::l,[],C,t,v,h=>by simp only[xH] at h;exact .inr h
 |(s,z)::l,u::vs,C,t,v,h=>by
  simp only[xH,uq] at h⊢;split at h
  ·rename_i uy;rw[aj uy];exact .inl h
  ·rename_i uy;rw[ah uy];exact Kf l vs C t v h
def S2.zip(hs:S2 F e a){l:List (Nat×Value)}{vs:LV}(h:tp e l=some vs):S2 F (xH l vs F.C) a:=by
 refine⟨⟨hs.1.size,hs.1.defers,λt v ht=>?_⟩,hs.2⟩;rcases Kf l vs F.C t v ht with h'|h'
 ·exact(kJ hs.1 h).1 t v h'
 ·exact hs.2.get t v h'
def Mo(hF:Ok F):∀(c:Code)(Q:Exit->Env->WK)(e:Env)(a:Act)(w:World),S2 F e a->den F c Q e w->c.wp F.P (QS F Q) a w:=by
 intro c
 induction c with
 |skip=>intro Q e a w hs h;exact wp_skip ⟨⟨e,hs,h⟩,by simp⟩
 |ret=>intro Q e a w hs h;exact wp_ret ⟨⟨e,hs,h⟩,by simp⟩
 |exit i=>intro Q e a w hs h;exact wp_exit ⟨⟨e,hs,h⟩,by simp⟩
 |seq x y ihx ihy=>
  intro Q e a w hs h;refine wp_seq (wp_mono (ihx _ e a w hs h) ?_);rintro ex a' w' ⟨⟨e',dM,hq⟩,hp⟩;cases ex<;>simp only[Ld] at hq
  case normal=>exact ihy Q e' a' w' dM hq
  all_goals exact⟨⟨e',dM,hq⟩,hp⟩
 |cond x c1 c2 Zi TZ=>
  intro Q e a w hs h;simp only[den] at h;cases hx:ev e x with
  |none=>simp only[hx,no] at h
  |some v=>
   cases v<;>simp only[hx,no] at h
   rename_i b;cases b with
   |true=>exact wp_cond_true (hs.1.eval hx) (Zi Q e a w hs h)
   |false=>exact wp_cond_false (hs.1.eval hx) (TZ Q e a w hs h)
 |block i c ih=>
  intro Q e a w hs h;refine wp_block (wp_mono (ih _ e a w hs h) ?_);rintro ex a' w' ⟨⟨e',dM,hq⟩,hp⟩;cases ex<;>simp only[Jf] at hq
  case exit j=>
   simp only[Exit.inBlock];cases hb:fe j i with
   |true=>rw[aj (df hb)];simp only[hb,cond_true] at hq;exact⟨⟨e',dM,hq⟩,by simp⟩
   |false=>
    have hZ:j≠i:=λh=>by simp[h] at hb
    rw[ah hZ];simp only[hb,cond_false] at hq;exact⟨⟨e',dM,hq⟩,by simp⟩
  all_goals exact⟨⟨e',dM,hq⟩,hp⟩
 |loop c ih=>
  intro Q e a w hs h;simp only[den] at h;cases hl:KP F.E' (key c) with
  |none=>simp only[hl,no] at h
  |some l=>
   simp only[hl] at h;cases hv:tp e l with
   |none=>simp only[hv,no] at h
   |some vs=>
    simp only[hv] at h;obtain⟨I,μ,h0,IG⟩:=h;have Pd:=(kJ hs.1 hv).2.1;refine wp_loop (λa w=>S2 F (xH l (l.map λp=>a.tmps.getD p.1 undef) F.C) a/\I (l.map λp=>a.tmps.getD p.1 undef) w/\∀f,CB (l.map (·.2)) f->f (l.map λp=>a.tmps.getD p.1 undef))
     (λa w=>μ (l.map λp=>a.tmps.getD p.1 undef) w) ?_ ?_
    ·rw[<-Pd];exact⟨hs.zip hv,h0,(kJ hs.1 hv).2.2⟩
    ·intro a1 w1 ⟨xC,hI1,gV⟩;have hr:=gV _ IG w1 hI1;apply wp_mono (ih _ _ a1 w1 xC hr);rintro ex a' w' ⟨⟨e',dM,hq⟩,hp⟩;cases ex<;>simp only[Ld] at hq
     case normal=>
      simp only[O6] at hq;cases Ah:tp e' l with
      |none=>simp only[Ah,no] at hq
      |some CN=>
       simp only[Ah] at hq;have IH:=(kJ dM.1 Ah).2.1;simp only[Exit.then];rw[<-IH];exact⟨⟨dM.zip Ah,hq.1,(kJ dM.1 Ah).2.2⟩,hq.2⟩
     all_goals exact⟨⟨e',dM,hq⟩,hp⟩
 |region id ops draw=>
  intro Q e a w hs h;simp only[den] at h;cases draw with
  |true=>
   simp only[cond_true] at h;cases zC:Region.noSelect ops with
   |false=>simp only[zC,cond_false,no] at h
   |true=>
    simp only[zC,cond_true,tick] at h;apply wp_region_any hF.mixed;rw[World.drew_eq];exact Bp _ _ _ _ _ (nW hF zC (λc a w=>Qo) (λe a w hs hk=>⟨⟨e,hs,hk⟩,by simp⟩) _ _ [] e a _ hs (by simp[YS]) h)
  |false=>
   simp only[cond_false] at h;refine wp_region (xW hF (λe a w hs hk=>⟨⟨e,hs,hk⟩,by simp⟩) (mD ops.size) ops.toList e a w (by simp) (λk i hk=>?_) hs h);rw[lz] at hk
   ·simp only[bj.injEq] at hk;subst hk;simp
   ·have:=(ar.1 hk).1;simpa using this
 |_=>intro Q e a w hs h;exact h.elim
def Lm(P:Program)(e:Env):List ResultVar->(LV->WK)->WK
 |[],K=>K []
 | .tmp t::r,K=>match lk e t with
   |some v=>Lm P e r λvs=>K (v::vs)
   |none=>no
 | .cell b t::r,K=>match lk e b with
   |some (.pointer (some a))=>yD P t a λ_ v=>Lm P e r λvs=>K (v::vs)
   |_=>no
def V4(vs:LV):Value:=match vs with|[v]=>v|vs=>.tuple ⟨vs⟩
def V5(P:Program)(rs:List ResultVar)(K:VK)(e:Env):WK:=Lm P e rs λvs=>K (V4 vs)
def ac8(P:Program)(rs:List ResultVar)(K:VK):Exit->Env->WK
 | .normal,e=>V5 P rs K e
 | .ret,e=>V5 P rs K e
 |_,_=>no
def wY(EM:List Nat)(want:Bool):Nat->LV->Env
 |_,[]=>[]
 |i,v::vs=>bif Ji (EM.any (fe i)) want then(i,v)::wY EM want (i+1) vs else wY EM want (i+1) vs
def Gy(m:List Nat)(b:Bool):∀(vs:LV)(i t:Nat)(v:Value),lk (wY m b i vs) t=some v->i<=t/\vs[t-i]?=some v
 |[],i,t,v,h=>by simp[wY,lk] at h
 |u::vs,i,t,v,h=>by
  simp only[wY] at h;have rest:lk (wY m b (i+1) vs) t=some v->i<=t/\(u::vs)[t-i]?=some v:=λh=>by
   obtain⟨h1,h2⟩:=Gy m b vs (i+1) t v h;refine⟨by omega,?_⟩;rw[show t-i=(t-(i+1))+1 from by omega];simpa using h2
  cases hb:Ji (m.any (fe i)) b with
  |false=>simp only[hb,cond_false] at h;exact rest h
  |true=>
   simp only[hb,cond_true,uq] at h;split at h
   ·rename_i hit;subst hit;cases h;exact⟨aC _,by simp⟩
   ·exact rest h
def DJ:∀(e f:Env)(t:Nat)(v:Value),lk (e++f) t=some v->lk e t=some v\/lk f t=some v
 |[],f,t,v,h=>.inr h
 |(s,u)::e,f,t,v,h=>by
  simp only[fE,uq] at h⊢;split at h
  ·rename_i hs;rw[aj hs];exact .inl h
  ·rename_i hs;rw[ah hs];exact DJ e f t v h
def Lq(tm:Array Value):ResultVar->Sem Value
 | .tmp t=>pure (tm.getD t undef)
 | .cell b t=>do loadVar t (<-asAddr (tm.getD b undef))
def Il(fn:Func)(tm:Array Value):results fn tm=(do let vs<-fn.results.mapM (Lq tm);pure (if h:vs.size=1 then vs[0] else .tuple vs)):=by
 unfold results
 congr 1
def zi{n:Nat}{e:Env}{a:Act}(hs:Sub n e a):∀{rs:List ResultVar} {K:LV->WK},Lm P e rs K w->∃vs,(rs.mapM (Lq a.tmps)).run P w=.ok vs w/\K vs w
 |[],K,h=>⟨[],rfl,h⟩
 | .cell b t::r,K,h=>by
   simp only[Lm] at h;cases h1:lk e b with
   |none=>simp only[h1,no] at h
   |some v=>
    cases v<;>simp only[h1,no] at h
    rename_i p;cases p with
    |none=>exact h.elim
    |some p=>
     simp only at h;obtain⟨v,cs,hH,hr,hk⟩:=uo h;obtain⟨vs,h2,hk⟩:=zi hs hk;have hg:a.tmps.getD b undef=.pointer (some p):=by rw[Array.getD_eq_getD_getElem?,hs.get b _ h1];rfl
     refine⟨v::vs,?_,hk⟩;have h3:(Lq a.tmps (.cell b t)).run P w=.ok v w:=by
      simp only[Lq,hg,asAddr,pure_bind];exact hr w hH
     rw[List.mapM_cons,Sem.run_bind,h3,Result.andThen_ok,Sem.run_bind,h2];rfl
 | .tmp t::r,K,h=>by
   simp only[Lm] at h;cases h1:lk e t with
   |none=>simp only[h1,no] at h
   |some v=>
    simp only[h1] at h;obtain⟨vs,h2,hk⟩:=zi hs h;have hg:a.tmps.getD t undef=v:=by rw[Array.getD_eq_getD_getElem?,hs.get t v h1];rfl
    refine⟨v::vs,?_,hk⟩;rw[List.mapM_cons,Sem.run_bind,Lq,Sem.run_pure,Result.andThen_ok,Sem.run_bind,h2,hg];rfl
def body(P:Program)(T:CQ)(E:Qw)(n:Nat)(m:List Nat)(E':List (Nat×List (Nat×Value)))(rs:List ResultVar)(c:Code):WP:=λargs K=>
 den ⟨P,T,E,n,wY m false 0 args,E'⟩ c (ac8 P rs K) (wY m true 0 args++wY m false 0 args)
def PA{P:Program}{T:CQ}{E:Qw}{g:Nat}{fn:Func}{c:Code}{p:WP}(m:List Nat)(E':List (Nat×List (Nat×Value)))(hT:kN P T)(hE:pH P E)(hm:P.follows .mixedOrders=true)
 (hf:P.funcs[g]?=some fn)(hb:fn.body=some c)(ZC:(fn.name== "runtime.NumGoroutine")=false)(hp:∀args K w,p args K w->args.length<=fn.ntmps/\body P T E fn.ntmps m E' fn.results.toList c args K w):aE P g p:=by
 refine⟨⟨fn,hf,ZC,by rw[hb];rfl⟩,λargs K w h=>?_⟩;obtain⟨hlen,h⟩:=hp args K w h;apply calls_of_wp hf hb;have oI:(⟨args⟩++gw (fn.ntmps-(⟨args⟩:Array Value).size) undef:Array Value).size=fn.ntmps:=by
  simp;omega
 have IM:∀(b:Bool) t v,lk (wY m b 0 args) t=some v->(⟨args⟩++gw (fn.ntmps-(⟨args⟩:Array Value).size) undef:Array Value)[t]?=some v:=λb t v ht=>by
  obtain⟨_,h2⟩:=Gy m b args 0 t v ht;simp only[Nat.sub_zero] at h2;have bW:t<args.length:=(ar.1 h2).1;rw[Array.getElem?_append_left (by simpa using bW)];simpa using h2
 refine wp_mono (Mo ⟨hT,hE,hm⟩ c _ _ ⟨⟨args⟩++gw (fn.ntmps-(⟨args⟩:Array Value).size) undef,[]⟩ w ⟨⟨oI,rfl,λt v ht=>?_⟩,⟨oI,rfl,λt v ht=>IM false t v ht⟩⟩ h) ?_
 ·rcases DJ _ _ t v ht with h'|h'
  ·exact IM true t v h'
  ·exact IM false t v h'
 ·rintro ex a' w' ⟨⟨e',dM,hq⟩,hpn⟩;have fin:V5 P fn.results.toList K e' w'->a'.defers=[]/\∃v,(results fn a'.tmps).run P w'=.ok v w'/\∃u,(Ending.returned v)=.returned u/\K u w':=by
   intro hr;obtain⟨vs,this,hk⟩:=zi dM.1 hr;refine⟨dM.1.defers,V4 vs,?_,_,rfl,hk⟩;have L4:(fn.results.mapM (Lq a'.tmps)).run P w'=.ok ⟨vs⟩ w':=by
    rw[<-Array.toArray_toList (xs:=fn.results),List.mapM_toArray,Sem.run_map,this];rfl
   rw[Il,Sem.run_bind,L4];simp only[Result.andThen_ok,Sem.run_pure]
   congr 1
   unfold V4;cases vs with
   |nil=>rfl
   |cons v vs=>
    cases vs with
    |nil=>rfl
    |cons u vs=>simp
  cases ex with
  |normal=>exact fin hq
  |ret=>exact fin hq
  |exit i=>exact hq.elim
  |goto i=>exact hq.elim
  |panic c=>exact aR rfl (hpn c)
  |outgrown=>exact hq.elim
end
end Go.Den
namespace Go.Sep
open Go.Den Go.RowKit
inductive Nr where
 |cells(cs:LV)
 |obj(o:Obj)
abbrev HP:=(Nat->Option Nr)->Prop
abbrev LH:=List HP
def view(w:World)(b:Nat):Option Nr:=
 match w.heap[b]? with
 |some (.cells c _ fz)=>if c.size<=fz.1\/fz.2=0 then some (.cells c.toList) else none
 |some o=>some (.obj o)
 |none=>none
def sep(A B:HP):HP:=λh=>∃h1 h2,(∀b,h1 b=none\/h2 b=none)/\(∀b,h b=(h1 b).or (h2 b))/\A h1/\B h2
def uU:LH->HP
 |[]=>λ_=>True
 |A::L=>sep A (uU L)
def pt(b:Nat)(cs:LV):HP:=λh=>h b=some (.cells cs)
def ob(b:Nat)(o:Obj):HP:=λh=>h b=some (.obj o)
def Py{α:Type}(f:α->HP):HP:=λh=>∃x,f x h
def ML(p:Prop)(A:HP):HP:=λh=>p/\A h
def St(W w:World)(L:LH):Prop:=Below W.heap.size W w/\∃h,uU L h/\∀b cs,h b=some cs->W.heap.size<=b/\view w b=some cs
def xX{A B:HP}{h:Nat->Option Nr}(x:sep A B h):sep B A h:=by
 obtain⟨h1,h2,hd,hu,ha,hb⟩:=x;refine⟨h2,h1,λb=>(hd b).symm,λb=>?_,hb,ha⟩;rw[hu b];rcases hd b with h|h<;>simp[h]
def wa{A B C:HP}{h:Nat->Option Nr}(x:sep (sep A B) C h):sep A (sep B C) h:=by
 obtain⟨sm,h3,hd,hu,⟨h1,h2,Ua,hu',ha,hb⟩,hc⟩:=x;refine⟨h1,λb=>(h2 b).or (h3 b),λb=>?_,λb=>?_,ha,h2,h3,λb=>?_,λb=>rfl,hb,hc⟩
 ·rcases Ua b with h|h
  ·exact .inl h
  ·rcases hd b with g|g
   ·rw[hu' b,h] at g;left;simpa using g
   ·right;simp[h,g]
 ·rw[hu b,hu' b];simp[Option.or_assoc]
 ·rcases hd b with g|g
  ·rw[hu' b] at g;simp at g;exact .inl g.2
  ·exact .inr g
def BF{A B C:HP}{h:Nat->Option Nr}(x:sep A (sep B C) h):sep (sep A B) C h:=
 xX (wa (xX (wa (xX x))))
def BE{A B A' B':HP}{h:Nat->Option Nr}(x:sep A B h)(ha:∀g,A g->A' g)(hb:∀g,B g->B' g):sep A' B' h:=by
 obtain⟨h1,h2,hd,hu,a,b⟩:=x;exact⟨h1,h2,hd,hu,ha _ a,hb _ b⟩
def Le{L M:LH}(p:L.Perm M):∀h,uU L h->uU M h:=by
 induction p with
 |nil=>exact λh x=>x
 |cons A _ ih=>exact λh x=>BE x (λ_ a=>a) ih
 |swap A B l=>exact λh x=>wa (BE (BF x) (λ_ y=>xX y) λ_ y=>y)
 |trans _ _ Zi TZ=>exact λh x=>TZ h (Zi h x)
def St.perm{W w:World}{L M:LH}(h:St W w L)(p:L.Perm M):St W w M:=
 let⟨hb,g,hs,hv⟩:=h;⟨hb,g,Le p g hs,hv⟩
def qm{α:Type}:∀{L:List α} {k:Nat} {A:α},L[k]?=some A->L.Perm (A::L.eraseIdx k)
 |[],k,A,h=>by simp at h
 |B::L,0,A,h=>by simp at h;subst h;simp
 |B::L,k+1,A,h=>by
  simp only[aW] at h;exact((qm h).cons B).trans (bA.swap _ _ _)
def set_perm{α:Type}:∀{L:List α} {k:Nat} {A B:α},L[k]?=some A->(B::L.eraseIdx k).Perm (L.set k B)
 |[],k,A,B,h=>by simp at h
 |C::L,0,A,B,h=>by simp
 |C::L,k+1,A,B,h=>by
  simp only[aW] at h;exact(bA.swap _ _ _).trans ((set_perm h).cons C)
def St.focus{W w:World}{L:LH}{k:Nat}{A:HP}(h:St W w L)(hk:L[k]?=some A):St W w (A::L.eraseIdx k):=h.perm (qm hk)
def St.oS{W w:World}{L:LH}{k:Nat}{A B:HP}(h:St W w (B::L.eraseIdx k))(hk:L[k]?=some A):St W w (L.set k B):=h.perm (set_perm hk)
def St.drop{W w:World}{A:HP}{L:LH}(h:St W w (A::L)):St W w L:=by
 obtain⟨hb,g,⟨h1,h2,hd,hu,ha,hl⟩,hv⟩:=h;refine⟨hb,h2,hl,λb cs QR=>hv b cs ?_⟩;rw[hu b];rcases hd b with h|h
 ·simp[h,QR]
 ·rw[h] at QR;cases QR
def St.mono{W w:World}{A B:HP}{L:LH}(h:St W w (A::L))(Yu:∀g,A g->B g):St W w (B::L):=
 let⟨hb,g,hs,hv⟩:=h;⟨hb,g,BE hs Yu λ_ y=>y,hv⟩
def St.ex{α:Type}{W w:World}{f:α->HP}{L:LH}(h:St W w (Py f::L)):∃x,St W w (f x::L):=by
 obtain⟨hb,g,⟨h1,h2,hd,hu,⟨x,hx⟩,hl⟩,hv⟩:=h;exact⟨x,hb,g,⟨h1,h2,hd,hu,hx,hl⟩,hv⟩
def St.nT{α:Type}{W w:World}{f:α->HP}{L:LH}(x:α)(h:St W w (f x::L)):St W w (Py f::L):=h.mono λ_ hx=>⟨x,hx⟩
def St.and{W w:World}{p:Prop}{A:HP}{L:LH}(h:St W w (ML p A::L)):p/\St W w (A::L):=by
 obtain⟨hb,g,⟨h1,h2,hd,hu,⟨hp,hx⟩,hl⟩,hv⟩:=h;exact⟨hp,hb,g,⟨h1,h2,hd,hu,hx,hl⟩,hv⟩
def St.and_intro{W w:World}{p:Prop}{A:HP}{L:LH}(hp:p)(h:St W w (A::L)):St W w (ML p A::L):=h.mono λ_ hx=>⟨hp,hx⟩
def St.split{W w:World}{A B:HP}{L:LH}(h:St W w (sep A B::L)):St W w (A::B::L):=
 let⟨hb,g,hs,hv⟩:=h;⟨hb,g,wa hs,hv⟩
def St.join{W w:World}{A B:HP}{L:LH}(h:St W w (A::B::L)):St W w (sep A B::L):=
 let⟨hb,g,hs,hv⟩:=h;⟨hb,g,BF hs,hv⟩
def St.below{W w:World}{L:LH}(h:St W w L):Below W.heap.size W w:=h.1
def xM{w:World}{b:Nat}{x:Nr}(h:view w b=some x):b<w.heap.size:=by
 unfold view at h;cases hb:w.heap[b]? with
 |none=>simp[hb] at h
 |some x=>exact(Array.getElem?_eq_some_iff.1 hb).1
def KZ{w:World}{b o:Nat}{cs:LV}(h:view w b=some (.cells cs)):w.cell? ⟨b,o,none⟩=cs[o]?/\(o<cs.length->w.frozen? ⟨b,o,none⟩=false)/\b<w.heap.size:=by
 have bW:=xM h;unfold view at h;cases hb:w.heap[b]? with
 |none=>simp[hb] at h
 |some x=>
  cases x<;>simp only[hb,reduceCtorEq,bj.injEq] at h
  rename_i c e fz;split at h
  ·rename_i Yr;simp only[bj.injEq,Nr.cells.injEq] at h;subst h;refine⟨by simp[World.cell?,hb],λho=>?_,bW⟩;simp only[World.frozen?,hb];obtain⟨lo,hi⟩:=fz;simp at Yr ho⊢;omega
  ·cases h
def NA{w:World}{b:Nat}{o:Obj}(h:view w b=some (.obj o)):w.heap[b]?=some o:=by
 unfold view at h;cases hb:w.heap[b]? with
 |none=>simp[hb] at h
 |some x=>
  cases x<;>simp only[hb,bj.injEq,Nr.obj.injEq] at h<;>first|(subst h;rfl)|(split at h<;>cases h)
def St.cell{W w:World}{L:LH}{k b o:Nat}{cs:LV}(h:St W w L)(hk:L[k]?=some (pt b cs)):
 w.cell? ⟨b,o,none⟩=cs[o]?/\(o<cs.length->w.frozen? ⟨b,o,none⟩=false)/\b<w.heap.size/\W.heap.size<=b:=by
 obtain⟨hb,g,⟨h1,h2,hd,hu,ha,hl⟩,hv⟩:=h.focus hk;have hg:g b=some (.cells cs):=by rw[hu b];simp only[pt] at ha;simp[ha]
 obtain⟨h3,h4⟩:=hv b _ hg;obtain⟨h5,h6,h7⟩:=KZ (o:=o) h4;exact⟨h5,h6,h7,h3⟩
def St.obj{W w:World}{L:LH}{k b:Nat}{o:Obj}(h:St W w L)(hk:L[k]?=some (ob b o)):w.heap[b]?=some o/\W.heap.size<=b:=by
 obtain⟨hb,g,⟨h1,h2,hd,hu,ha,hl⟩,hv⟩:=h.focus hk;have hg:g b=some (.obj o):=by rw[hu b];simp only[ob] at ha;simp[ha]
 obtain⟨h3,h4⟩:=hv b _ hg;exact⟨NA h4,h3⟩
def xK{w:World}{b o:Nat}{cs:LV}{v:Value}(h:view w b=some (.cells cs)):view (w.setCell ⟨b,o,none⟩ v) b=some (.cells (cs.set o v)):=by
 unfold view at h⊢;cases hb:w.heap[b]? with
 |none=>simp[hb] at h
 |some x=>
  cases x<;>simp only[hb,reduceCtorEq,bj.injEq] at h
  rename_i c e fz;have:(w.setCell ⟨b,o,none⟩ v).heap[b]?=some (.cells (c.setIfInBounds o v) e fz):=by
   simp[World.setCell,Array.getElem?_modify,hb]
  simp only[this,Array.size_setIfInBounds];split at h
  ·rename_i Yr;simp only[bj.injEq,Nr.cells.injEq] at h;subst h;rw[aj Yr];simp
  ·cases h
def tT{w w':World}{b:Nat}(h:w'.heap[b]?=w.heap[b]?):view w' b=view w b:=by unfold view;rw[h]
def St.TA{W w w':World}{L:LH}{k b:Nat}{x x':Nr}(h:St W w L)(hk:L[k]?=some (λh=>h b=some x))(hb:Below W.heap.size W w')
 (Ah:view w' b=some x')(ho:∀j,j≠b->j<w.heap.size->w'.heap[j]?=w.heap[j]?):St W w' (L.set k (λh=>h b=some x')):=by
 refine St.oS (A:=λh=>h b=some x) ?_ hk;obtain⟨_,g,⟨h1,h2,hd,hu,ha,hl⟩,hv⟩:=h.focus hk;have kP:W.heap.size<=b:=(hv b x (by rw[hu b];simp[ha])).1;refine⟨hb,λj=>if j=b then some x' else g j,⟨λj=>if j=b then some x' else h1 j,h2,λj=>?_,λj=>?_,by simp,hl⟩,λj ds hj=>?_⟩
 ·by_cases e:j=b
  ·subst e;right;rcases hd j with h|h
   ·rw[h] at ha;cases ha
   ·exact h
  ·simpa [e] using hd j
 ·by_cases e:j=b
  ·subst e;simp
  ·simp[e,hu j]
 ·by_cases e:j=b
  ·subst e;simp at hj;subst hj;exact⟨kP,Ah⟩
  ·simp[e] at hj;obtain⟨h3,h4⟩:=hv j ds hj;have bW:j<w.heap.size:=xM h4;exact⟨h3,by rw[tT (ho j e bW)];exact h4⟩
def St.bB{W w w':World}{L:LH}{k b:Nat}{cs sS:LV}(h:St W w L)(hk:L[k]?=some (pt b cs))(hb:Below W.heap.size W w')
 (Ah:view w' b=some (.cells sS))(ho:∀j,j≠b->j<w.heap.size->w'.heap[j]?=w.heap[j]?):St W w' (L.set k (pt b sS)):=h.TA hk hb Ah ho
def St.set{W w:World}{L:LH}{k b o:Nat}{cs:LV}(v:Value)(h:St W w L)(hk:L[k]?=some (pt b cs)):St W (w.setCell ⟨b,o,none⟩ v) (L.set k (pt b (cs.set o v))):=by
 have hc:=h.cell (o:=o) hk;obtain⟨_,g,⟨h1,h2,hd,hu,ha,hl⟩,hv⟩:=h.focus hk;have hvw:=(hv b (.cells cs) (by rw[hu b];simp only[pt] at ha;simp[ha])).2;exact h.bB hk (h.1.setCell (p:=⟨b,o,none⟩) hc.2.2.2 v) (xK hvw) (λj hj _=>Below.heap_setCell w ⟨b,o,none⟩ v j hj)
def HO{w:World}{cs:LV}{t:TypeId}:view (w.alloc (.cells ⟨cs⟩ t)) w.heap.size=some (.cells cs):=by
 have:(w.alloc (.cells ⟨cs⟩ t)).heap[w.heap.size]?=some (.cells ⟨cs⟩ t):=by
  show(w.heap.push (.cells ⟨cs⟩ t))[w.heap.size]?=_;rw[Array.getElem?_push_size]
 unfold view;rw[this];simp
def St.Y7{W w:World}{L:LH}(h:St W w L)(o:Obj){x:Nr}(hx:view (w.alloc o) w.heap.size=some x):St W (w.alloc o) ((λh=>h w.heap.size=some x)::L):=by
 obtain⟨hb,g,hs,hv⟩:=h;have hle:=hb.size;have hg0:g w.heap.size=none:=by
  cases hg:g w.heap.size with
  |none=>rfl
  |some ds=>exact aR (xM (hv _ _ hg).2) (by omega)
 refine⟨hb.alloc hle _,λj=>if j=w.heap.size then some x else g j,⟨λj=>if j=w.heap.size then some x else none,g,λj=>?_,λj=>?_,by simp,hs⟩,λj ds hj=>?_⟩
 ·by_cases e:j=w.heap.size
  ·subst e;exact .inr hg0
  ·simp[e]
 ·by_cases e:j=w.heap.size
  ·subst e;simp
  ·simp[e]
 ·by_cases e:j=w.heap.size
  ·subst e;simp at hj;subst hj;exact⟨hle,hx⟩
  ·simp[e] at hj;obtain⟨h3,h4⟩:=hv j ds hj;exact⟨h3,by rw[tT (Below.heap_alloc w _ j (xM h4))];exact h4⟩
def St.new{W w:World}{L:LH}(h:St W w L)(cs:LV)(t:TypeId):St W (w.alloc (.cells ⟨cs⟩ t)) (pt w.heap.size cs::L):=h.Y7 _ HO
def St.drew{W w:World}{L:LH}(h:St W w L):St W w.drew L:=
 let⟨hb,g,hs,hv⟩:=h;⟨hb.drew,g,hs,hv⟩
def St.qD{W w w':World}{L:LH}(h:St W w L)(hb:Below w.heap.size w w'):St W w' L:=by
 obtain⟨hB,g,hs,hv⟩:=h;refine⟨hB.trans (hb.mono hB.size),g,hs,λb cs hc=>?_⟩;obtain⟨h1,h2⟩:=hv b cs hc;exact⟨h1,by rw[tT (hb.block b (xM h2))];exact h2⟩
def St.start(W:World):St W W []:=⟨Below.refl _ _,λ_=>none,trivial,λb cs h=>by cases h⟩
def mq(k n:Nat):LV->World->Nat:=λvs _=>match vs[k]? with|some (.int _ d)=>n-d.toNat|_=>0
def dn{n a b:Nat}(h:b<a/\b<n):n-((a:Nat):Int).toNat<n-((b:Nat):Int).toNat:=by omega
section
variable {w:World}
def Ts(k:IntKind)(K:Int->WK)(n:Int)(w:World):xI k K (.int k n) w=K n w:=by
 simp[xI]
def Nv(K:Bool->WK)(b:Bool)(w:World):xB K (.b b) w=K b w:=by simp[xB]
def Nu(K:BA->WK)(s:BA)(w:World):xS K (.s s) w=K s w:=by simp[xS]
def Tq(K:OA->WK)(p:OA)(w:World):xP K (.p p) w=K p w:=by simp[xP]
def Tr(K:OA->Nat->Nat->WK)(b:OA)(n c:Nat)(w:World):xL K (.l b n c) w=K b n c w:=
 propext ⟨λ⟨_,_,_,h,hk⟩=>by cases h;exact hk,λh=>⟨_,_,_,rfl,h⟩⟩
def uM(n:Nat)(K:LV->WK)(cs:LV)(w:World):xA n K (.agg ⟨cs⟩) w=(cs.length=n/\K cs w):=by
 simp[xA]
def Tx(K:WK)(w:World):x0 K (.tuple ⟨[]⟩) w=K w:=by simp[x0]
def Tu(K:Value->Value->WK)(a b:Value)(w:World):x2 K (.tuple ⟨[a,b]⟩) w=K a b w:=
 propext ⟨λ⟨_,_,h,hk⟩=>by cases h;exact hk,λh=>⟨_,_,rfl,h⟩⟩
def Tt(K:Value->Value->Value->WK)(a b c:Value)(w:World):x3 K (.tuple ⟨[a,b,c]⟩) w=K a b c w:=
 propext ⟨λ⟨_,_,_,h,hk⟩=>by cases h;exact hk,λh=>⟨_,_,_,rfl,h⟩⟩
def jm(X Y:WK):br true X Y=X:=rfl
def fo(X Y:WK):br false X Y=Y:=rfl
def A0(a:Addr)(K:Addr->WK):nn (some a) K=K a:=rfl
def Xx(p:Prop)(K:WK)(w:World):aY p K w=(p/\K w):=rfl
def dh(b o n:Nat):(⟨b,o,none⟩:Addr).add n=⟨b,o+n,none⟩:=by
 unfold Addr.add;split
 ·rename_i h;subst h;rfl
 ·rfl
def qS{b:Bool}{X Y:WK}(h1:b=true->X w)(h2:b=false->Y w):br b X Y w:=by
 cases b with
 |true=>exact h1 rfl
 |false=>exact h2 rfl
def dY{p:Prop}[Decidable p]{X Y:WK}(h1:p->X w)(h2: ¬p->Y w):br (decide p) X Y w:=
 qS (λh=>h1 (bG h)) (λh=>h2 (cD h))
def Hj{x y:Int}{X Y:WK}(h1:x=y->X w)(h2:x≠y->Y w):br (x==y) X Y w:=
 qS (λh=>h1 (by simpa using h)) (λh=>h2 (by simpa using h))
def rU{x y:Int}{X Y:WK}(h1:x≠y->X w)(h2:x=y->Y w):br (x !=y) X Y w:=
 qS (λh=>h1 (by simpa using h)) (λh=>h2 (by simpa using h))
end
def nz:(∀(a:Addr)(K:Addr->WK),nn (some a) K=K a)/\(∀b o n:Nat,(⟨b,o,none⟩:Addr).add n=⟨b,o+n,none⟩)/\(∀n:Nat,0+n=n)/\(∀n:Nat,n+0=n)/\
 (∀(α:Type)(a:α),(some a).isNone=false)/\(∀α:Type,(none:Option α).isNone=true)/\(∀X Y:WK,br true X Y=X)/\(∀X Y:WK,br false X Y=Y)/\((!true)=false)/\((!false)=true)/\
 (∀(k:IntKind)(K:Int->WK)(n:Int)(w:World),xI k K (.int k n) w=K n w)/\(∀(K:Bool->WK)(b:Bool)(w:World),xB K (.b b) w=K b w)/\(∀(K:BA->WK)(s:BA)(w:World),xS K (.s s) w=K s w)/\
 (∀(K:OA->WK)(p:OA)(w:World),xP K (.p p) w=K p w)/\(∀(K:OA->Nat->Nat->WK)(b:OA)(n c:Nat)(w:World),xL K (.l b n c) w=K b n c w)/\
 (∀(K:WK)(w:World),x0 K (.tuple ⟨[]⟩) w=K w)/\(∀(K:Value->Value->WK)(a b:Value)(w:World),x2 K (.tuple ⟨[a,b]⟩) w=K a b w)/\(∀(K:Value->Value->Value->WK)(a b c:Value)(w:World),x3 K (.tuple ⟨[a,b,c]⟩) w=K a b c w)/\
 (∀(p:Prop)(K:WK)(w:World),aY p K w=(p/\K w))/\(∀p:Prop,(True/\p)=p)/\(∀p:Prop,(p/\True)=p)/\
 (∀(α:Type 1)(a b:α)(l:List α),(a::l).set 0 b=b::l)/\(∀(α:Type 1)(a b:α)(l:List α)(n:Nat),(a::l).set (n+1) b=a::l.set n b)/\(∀(α:Type 1)(a:α)(l:List α),(a::l).eraseIdx 0=l)/\(∀(α:Type 1)(a:α)(l:List α)(n:Nat),(a::l).eraseIdx (n+1)=a::l.eraseIdx n)/\
 (∀(α:Type)(a b:α)(l:List α),(a::l).set 0 b=b::l)/\(∀(α:Type)(a b:α)(l:List α)(n:Nat),(a::l).set (n+1) b=a::l.set n b)/\(∀(α:Type)(a:α)(l:List α),(a::l).eraseIdx 0=l)/\(∀(α:Type)(a:α)(l:List α)(n:Nat),(a::l).eraseIdx (n+1)=a::l.eraseIdx n):=
 ⟨A0,dh,az,iL,λ_ _=>rfl,λ_=>rfl,jm,fo,rfl,rfl,Ts,Nv,Nu,Tq,Tr,Tx,Tu,Tt,Xx,λ_=>true_and _,λ_=>and_true _,λ_ _ _ _=>rfl,λ_ _ _ _ _=>rfl,λ_ _ _=>rfl,λ_ _ _ _=>rfl,λ_ _ _ _=>rfl,λ_ _ _ _ _=>rfl,λ_ _ _=>rfl,λ_ _ _ _=>rfl⟩
def bz:(∀(p:Prop) [Decidable p],(decide p=true)=p)/\(∀(p:Prop) [Decidable p],(decide p=false)= ¬p)/\(∀b:Bool,((!b)=true)=(b=false))/\(∀b:Bool,((!b)=false)=(b=true))/\((true=false)=False)/\((false=true)=False)/\
 (∀(a b:Int),((a==b)=true)=(a=b))/\(∀(a b:Int),((a==b)=false)= ¬a=b)/\(∀(a b:Int),((a !=b)=true)= ¬a=b)/\(∀(a b:Int),((a !=b)=false)=(a=b))/\(∀(α:Type)(a b:α),(a≠b)= ¬a=b)/\(∀p:Prop,(¬ ¬p)=p)/\((!true)=false)/\((!false)=true):=by
 refine⟨λp _=>by simp,λp _=>by simp,λb=>by cases b<;>simp,λb=>by cases b<;>simp,by simp,by simp,λa b=>by simp,λa b=>by simp,λa b=>by simp,λa b=>by simp,λ_ a b=>rfl,λp=>by simp,rfl,rfl⟩
section
variable {W w:World} {L:LH} {k:Nat}
def O7{a:Addr}{v:Value}{K:VK}(h:w.cell? a=some v)(hk:K v w):ld a K w:=⟨v,h,hk⟩
def cy{b o:Nat}{cs:LV}{v:Value}{K:VK}(h:St W w L)(hk:L[k]?=some (pt b cs))(hv:cs[o]?=some v)(hK:K v w):ld ⟨b,o,none⟩ K w:=
 ⟨v,by rw[(h.cell hk).1,hv],hK⟩
def mV{b o:Nat}{cs:LV}{v:Value}{K:WK}(h:St W w L)(hk:L[k]?=some (pt b cs))(ho:o<cs.length)(h1:v.oneCell'=true)
 (hK:∀w',St W w' (L.set k (pt b (cs.set o v)))->K w'):st ⟨b,o,none⟩ v K w:=by
 obtain⟨h2,h3,_⟩:=h.cell (o:=o) hk;exact⟨h1,⟨cs[o],by rw[h2];simp[ho]⟩,h3 ho,hK _ (h.set v hk)⟩
def gh{cs:LV}{K:Nat->WK}(h:St W w L)(hK:∀r w',St W w' (pt r cs::L)->K r w'):mk cs K w:=λt=>hK _ _ (h.new cs t)
def km{K:WK}(h:St W w L)(hK:∀w',St W w' L->K w'):tick K w:=hK _ h.drew
def tO{b o:Nat}{cs xs:LV}(h:St W w L)(hk:L[k]?=some (pt b cs))(hx:∀j v,xs[j]?=some v->cs[o+j]?=some v):uQ w ⟨b,o,none⟩ xs:=λj v hj=>by
 rw[dh,(h.cell hk).1];exact hx j v hj
def Kk{b o:Nat}{cs xs:LV}{K:WK}(h:St W w L)(hk:L[k]?=some (pt b cs))(hx:∀j v,xs[j]?=some v->cs[o+j]?=some v)(hK:K w):kp ⟨b,o,none⟩ xs K w:=
 ⟨tO h hk hx,hK⟩
def ig{b o:Nat}{cs:LV}{v:Value}{K:WK}(h:St W w L)(hk:L[k]?=some (pt b cs))(hx:cs[o]?=some v)(hK:K w):kp ⟨b,o,none⟩ [v] K w:=
 Kk h hk (λj u hj=>by
  cases j with
  |zero=>simp at hj;subst hj;exact hx
  |succ j=>simp at hj) hK
def gU{b o n:Nat}{cs xs:LV}{K:LV->WK}(h:St W w L)(hk:L[k]?=some (pt b cs))(hl:xs.length=n)(hx:∀j v,xs[j]?=some v->cs[o+j]?=some v)(hK:K xs w):aD ⟨b,o,none⟩ n K w:=
 ⟨xs,hl,tO h hk hx,hK⟩
def over(cs:LV)(o:Nat)(xs:LV):LV:=cs.take o++xs++cs.drop (o+xs.length)
def Gi{cs:LV}{o:Nat}{xs:LV}(h:o+xs.length<=cs.length):(over cs o xs).length=cs.length:=by
 simp[over];omega
def yt{cs:LV}{o:Nat}{xs:LV}(h:o+xs.length<=cs.length)(j:Nat):(over cs o xs)[j]?=if j<o then cs[j]? else if j<o+xs.length then xs[j-o]? else cs[j]?:=by
 unfold over;rw[aI];by_cases h1:j<o
 ·rw[aj h1,bM (by simp;omega),List.getElem?_take_of_lt h1]
 ·rw[ah h1,jo (by simp;omega)];have e:(cs.take o).length=o:=by simp;omega
  rw[e];by_cases h2:j<o+xs.length
  ·rw[aj h2,bM (by omega)]
  ·rw[ah h2,jo (by omega),px]
   congr 1;omega
def OK{cs:LV}{o:Nat}{v:Value}{xs:LV}(h:o+(xs.length+1)<=cs.length):over (cs.set o v) (o+1) xs=over cs o (v::xs):=by
 apply jq;intro j;rw[yt (by simp;omega),yt (by simpa using h)];by_cases h1:j<o
 ·rw[aj (by omega),aj h1,List.getElem?_set_ne (by omega)]
 ·by_cases h2:j=o
  ·subst h2;rw[aj (by omega),ah (by omega),aj (by simp)];have:j<cs.length:=by omega
   simp[this]
  ·rw[ah (by omega),ah h1];by_cases h3:j<o+(xs.length+1)
   ·rw[aj (by omega),aj (by simpa using h3)];obtain⟨m,rfl⟩:∃m,j=o+1+m:=⟨j-(o+1),by omega⟩;rw[show o+1+m-o=m+1 from by omega,show o+1+m-(o+1)=m from by omega]
    rfl
   ·rw[ah (by omega),ah (by simpa using h3),List.getElem?_set_ne (by omega)]
def kr{α:Type}:∀{L:List α} {k:Nat} {A:α},L[k]?=some A->L.set k A=L
 |[],k,A,h=>by simp at h
 |B::L,0,A,h=>by simp at h;subst h;rfl
 |B::L,k+1,A,h=>by simp only[aW] at h;simp only[kf,kr h]
def St.vk:∀(xs:LV) {w:World} {L:LH} {b:Nat}(o i:Nat) {cs:LV},St W w L->L[k]?=some (pt b cs)->o+i+xs.length<=cs.length->(∀v∈xs,v.oneCell'=true)->
 sW w ⟨b,o,none⟩ i xs/\St W (Den.vk w ⟨b,o,none⟩ i xs) (L.set k (pt b (over cs (o+i) xs)))
 |[],w,L,b,o,i,cs,h,hk,hl,h1=>by
  refine⟨⟨by simp,by simp⟩,?_⟩;have:over cs (o+i) []=cs:=by simp[over]
  rw[this,kr hk];exact h
 |v::xs,w,L,b,o,i,cs,h,hk,hl,h1=>by
  have Aj:(L.set k (pt b (cs.set (o+i) v)))[k]?=some (pt b (cs.set (o+i) v)):=by
   have:=(ar.1 hk).1;simp[this]
  have h2:=h.set (o:=o+i) v hk;obtain⟨hc,hs⟩:=St.vk xs o (i+1) h2 Aj (by simp at hl⊢;omega) (λu hu=>h1 u (by simp[hu]));refine⟨⟨h1,λj hj=>?_⟩,?_⟩
  ·rw[dh];obtain⟨g1,g2,_⟩:=h.cell (o:=o+(i+j)) hk;simp only[bw] at hl hj;have bW:o+(i+j)<cs.length:=by omega
   exact⟨⟨cs[o+(i+j)],by rw[g1];simp[bW]⟩,g2 bW⟩
  ·simp only[Den.vk];rw[dh,gW] at *;have e:=OK (cs:=cs) (o:=o+i) (v:=v) (xs:=xs) (by simp at hl;omega);rw[show o+(i+1)=o+i+1 from by omega,e] at hs;exact hs
def ic{b o:Nat}{cs xs:LV}{K:WK}(h:St W w L)(hk:L[k]?=some (pt b cs))(hl:o+xs.length<=cs.length)(h1:∀v∈xs,v.oneCell'=true)
 (hK:∀w',St W w' (L.set k (pt b (over cs o xs)))->K w'):fH ⟨b,o,none⟩ xs K w:=by
 obtain⟨hc,hs⟩:=St.vk xs o 0 h hk (by omega) h1;exact⟨hc,hK _ hs⟩
end
def own(b:OA)(n c e:Nat)(xs:LV):HP:=λh=>
 xs.length=n* e/\((b=none/\n=0/\c=0)\/∃r sp,b=ai r/\n<=c/\sp.length=(c-n)* e/\pt r (xs++sp) h)
section
variable {W w:World} {L:LH} {k:Nat} {b:OA} {n c e:Nat} {xs:LV}
def St.push{A:HP}(h:St W w L)(ha:A λ_=>none):St W w (A::L):=by
 obtain⟨hb,g,hs,hv⟩:=h;exact⟨hb,g,⟨λ_=>none,g,λb=>.inl rfl,λb=>by simp,ha,hs⟩,hv⟩
def qh(e:Nat):own none 0 0 e [] λ_=>none:=⟨by simp,.inl ⟨rfl,rfl,rfl⟩⟩
def St.k8(h:St W w L)(hk:L[k]?=some (own b n c e xs)):xs.length=n* e/\
 ((b=none/\n=0/\c=0)\/∃r sp,b=ai r/\n<=c/\sp.length=(c-n)* e/\St W w (L.set k (pt r (xs++sp)))):=by
 obtain⟨hb,g,⟨h1,h2,hd,hu,⟨hl,ha⟩,hs⟩,hv⟩:=h.focus hk;refine⟨hl,ha.imp id ?_⟩;rintro⟨r,sp,oJ,sh,AJ,hp⟩;exact⟨r,sp,oJ,sh,AJ,St.oS (A:=own b n c e xs) ⟨hb,g,⟨h1,h2,hd,hu,hp,hs⟩,hv⟩ hk⟩
def gR{α:Type}{L:List α}{k:Nat}{A B:α}(hk:L[k]?=some A):(L.set k B)[k]?=some B:=by
 have:=(ar.1 hk).1;simp[this]
def St.EH{r:Nat}{sp:LV}(hk:k<L.length)(hl:xs.length=n* e)(sh:n<=c)(AJ:sp.length=(c-n)* e)(h:St W w (L.set k (pt r (xs++sp)))):
 St W w (L.set k (own (ai r) n c e xs)):=by
 have hg:(L.set k (pt r (xs++sp)))[k]?=some (pt r (xs++sp)):=by simp[hk]
 have h2:=(h.focus hg).mono (B:=own (ai r) n c e xs) λg hp=>⟨hl,.inr ⟨r,sp,rfl,sh,AJ,hp⟩⟩;have:=h2.oS hg;rwa[gW] at this
def St.DC{r:Nat}(h:St W w L)(hk:L[k]?=some (own (ai r) n c e xs))(o:Nat)(ho:o<xs.length):
 w.cell? ⟨r,o,none⟩=xs[o]?/\w.frozen? ⟨r,o,none⟩=false:=by
 obtain⟨hl,h0|⟨r',sp,hb,sh,AJ,hs⟩⟩:=h.k8 hk
 ·cases h0.1
 ·cases hb
  obtain⟨h1,h2,_⟩:=hs.cell (o:=o) (gR hk);exact⟨by rw[h1,bM ho],h2 (by simp;omega)⟩
def uv{i:Int}{K:Addr->WK}(h:St W w L)(hk:L[k]?=some (own b n c e xs))(hi:0<=i/\i<n)
 (hK:∀r,b=ai r->K ⟨r,i.toNat* e,none⟩ w):gp b n i e K w:=by
 obtain⟨hl,h0|⟨r,sp,hb,sh,AJ,hs⟩⟩:=h.k8 hk
 ·omega
 ·refine⟨_,hb,hi,?_⟩;rw[dh,az];exact hK r hb
def zz{r o:Nat}{v:Value}{K:VK}(h:St W w L)(hk:L[k]?=some (own (ai r) n c e xs))(hv:xs[o]?=some v)(hK:K v w):ld ⟨r,o,none⟩ K w:=
 ⟨v,by rw[(h.DC hk o (ar.1 hv).1).1,hv],hK⟩
def wC{r o:Nat}{ys:LV}(h:St W w L)(hk:L[k]?=some (own (ai r) n c e xs))(hx:∀j v,ys[j]?=some v->xs[o+j]?=some v):uQ w ⟨r,o,none⟩ ys:=λj v hj=>by
 have:=hx j v hj;rw[dh,(h.DC hk _ (ar.1 this).1).1,this]
def Kg{r o m:Nat}{ys:LV}{K:LV->WK}(h:St W w L)(hk:L[k]?=some (own (ai r) n c e xs))(hl:ys.length=m)(hx:∀j v,ys[j]?=some v->xs[o+j]?=some v)(hK:K ys w):aD ⟨r,o,none⟩ m K w:=
 ⟨ys,hl,wC h hk hx,hK⟩
def Q9{r o:Nat}{ys:LV}{K:WK}(h:St W w L)(hk:L[k]?=some (own (ai r) n c e xs))(ho:o+ys.length<=xs.length)(h1:∀v∈ys,v.oneCell'=true)
 (hK:∀w',St W w' (L.set k (own (ai r) n c e (over xs o ys)))->K w'):fH ⟨r,o,none⟩ ys K w:=by
 obtain⟨hl,h0|⟨r',sp,hb,sh,AJ,hs⟩⟩:=h.k8 hk
 ·cases h0.1
 ·cases hb
  refine ic hs (gR hk) (by simp;omega) h1 λw' Nj=>hK w' ?_;rw[gW] at Nj;have e1:over (xs++sp) o ys=over xs o ys++sp:=by
   unfold over;rw[List.take_append_of_le_length (by omega),List.drop_append_of_le_length (by omega)];simp
  rw[e1] at Nj;exact St.EH ((ar.1 hk).1) (by rw[Gi ho];exact hl) sh AJ Nj
def Ey{r o:Nat}{v:Value}{K:WK}(h:St W w L)(hk:L[k]?=some (own (ai r) n c e xs))(ho:o<xs.length)(h1:v.oneCell'=true)
 (hK:∀w',St W w' (L.set k (own (ai r) n c e (xs.set o v)))->K w'):st ⟨r,o,none⟩ v K w:=by
 obtain⟨hl,h0|⟨r',sp,hb,sh,AJ,hs⟩⟩:=h.k8 hk
 ·cases h0.1
 ·cases hb
  refine mV hs (gR hk) (by simp;omega) h1 λw' Nj=>hK w' ?_;rw[gW,List.set_append_left _ _ ho] at Nj;exact St.EH ((ar.1 hk).1) (by simpa using hl) sh AJ Nj
def CD{r o m:Nat}{cs ys:LV}{k':Nat}(h:St W w L)(hk:L[k']?=some (pt r cs))(hl:ys.length=m* e)(hx:∀j v,ys[j]?=some v->cs[o+j]?=some v):Src w m e (some ⟨r,o,none⟩) ys:=
 ⟨hl,λa ha=>by cases ha;exact tO h hk hx⟩
def KS{m c':Nat}{ys:LV}{b':OA}{k':Nat}(h:St W w L)(hk:L[k']?=some (own b' m c' e ys)):Src w m e b' ys/\(b'=none->m=0):=by
 obtain⟨hl,h0|⟨r',sp,hb,sh,AJ,hs⟩⟩:=h.k8 hk
 ·obtain⟨rfl,rfl,rfl⟩:=h0;exact⟨⟨hl,λa ha=>by cases ha⟩,λ_=>rfl⟩
 ·subst hb;refine⟨⟨hl,λa ha=>?_⟩,λhn=>by cases hn⟩;cases ha
  exact tO hs (gR hk) λj v hj=>by
   rw[az,bM (ar.1 hj).1];exact hj
def kW(z:LV)(m:Nat):(Builtin.zeroCells ⟨z⟩ m).toList.length=m* z.length:=by
 simp[Builtin.zeroCells]
def IB(c n m e:Nat):(c-n)* e-m* e=(c-(n+m))* e:=by
 rw[<-Nat.sub_mul];congr 1;omega
def Ho{bytes m:Nat}{zero ys:LV}{K:OA->Nat->Nat->WK}(h:St W w L)(hk:L[k]?=some (own b n c e xs))(hy:ys.length=m* e)(hz:zero.length=e)
 (hbound:(n+m)* bytes<=140737488355328)(R7:n+m<=9223372036854775807)(h1:∀v∈ys,v.oneCell'=true)
 (hK:∀b' c' w',St W w' (L.set k (own b' (n+m) c' e (xs++ys)))->K b' (n+m) c' w'):S5 e bytes zero b n c m ys K w:=by
 have WR:=(ar.1 hk).1;obtain⟨hl,h0⟩:=h.k8 hk;refine⟨λhle=>⟨λa ha=>?_,λhb=>?_⟩,λbW=>⟨hbound,by omega,xs,?_,?_,λc' t GN=>?_⟩⟩
 ·rcases h0 with h0|⟨r,sp,hb,sh,AJ,hs⟩
  ·rw[h0.1] at ha;cases ha
  ·subst hb;cases ha
   rw[dh,az];have GI:n* e+0+ys.length<=(xs++sp).length:=by
    rw[ak,hl,AJ,hy,iL,<-lq,<-lq];exact fS e (by omega)
   obtain⟨hc,gJ⟩:=St.vk ys (n* e) 0 hs (gR hk) GI h1;refine⟨hc,hK _ _ _ ?_⟩;rw[gW,iL] at gJ;have e1:over (xs++sp) (n* e) ys=(xs++ys)++sp.drop ys.length:=by
    unfold over;rw[<-hl,List.take_left' rfl,List.drop_append,eH (by omega)];simp
   rw[e1] at gJ;refine St.EH WR (by rw[ak,hl,hy,lq]) hle ?_ gJ;rw[aV,AJ,hy];exact IB c n m e
 ·rcases h0 with h0|⟨r,sp,oJ,sh,AJ,hs⟩
  ·obtain⟨rfl,rfl,rfl⟩:=h0;have hm:m=0:=by omega
   subst hm;have hye:ys=[]:=List.eq_nil_of_length_eq_zero (by simpa using hy);have hxe:xs=[]:=List.eq_nil_of_length_eq_zero (by simpa using hl);subst hye hxe;apply hK _ _ _;rw[bN,kr hk];exact h
  ·rw[oJ] at hb;cases hb
 ·rcases h0 with h0|⟨r,sp,hb,sh,AJ,hs⟩
  ·obtain⟨rfl,rfl,rfl⟩:=h0;exact⟨hl,λa ha=>by cases ha⟩
  ·subst hb;refine⟨hl,λa ha=>?_⟩;cases ha
   exact tO hs (gR hk) λj v hj=>by
    rw[az,bM (ar.1 hj).1];exact hj
 ·intro hb;rcases h0 with h0|⟨r,sp,oJ,_⟩
  ·exact h0.2.1
  ·rw[oJ] at hb;cases hb
 ·apply hK _ _ _;have R6:=(h.focus hk).drop.drew.new ((xs++ys)++(Builtin.zeroCells ⟨zero⟩ (c'-(n+m))).toList) t;rw[World.size_drew] at R6;have adJ:((xs++ys).toArray++Builtin.zeroCells ⟨zero⟩ (c'-(n+m)):Array Value)=⟨(xs++ys)++(Builtin.zeroCells ⟨zero⟩ (c'-(n+m))).toList⟩:=by
   apply rv;simp
  rw[adJ];refine St.oS (A:=own b n c e xs) ?_ hk;exact R6.mono λg hp=>⟨by rw[ak,hl,hy,lq],.inr ⟨_,_,rfl,GN,by rw[kW,hz],hp⟩⟩
def rq{bytes m:Nat}{zero ys:LV}{b':OA}{K:OA->Nat->Nat->WK}(h:St W w L)(hk:L[k]?=some (own b n c e xs))(xj:Src w m e b' ys)(oJ:b'=none->m=0)(hz:zero.length=e)
 (hbound:(n+m)* bytes<=140737488355328)(R7:n+m<=9223372036854775807)(h1:∀v∈ys,v.oneCell'=true)
 (hK:∀b' c' w',St W w' (L.set k (own b' (n+m) c' e (xs++ys)))->K b' (n+m) c' w'):jO e bytes zero b n c b' m K w:=
 ⟨ys,xj,oJ,Ho h hk xj.1 hz hbound R7 h1 hK⟩
def Eu(s:BA):∀v∈strCells s,v.oneCell'=true:=by
 intro v hv;simp only[strCells,dK] at hv;obtain⟨x,_,rfl⟩:=hv
 rfl
def strCells_length(s:BA):(strCells s).length=s.size:=by simp[strCells]
def Cz{s:BA}{K:OA->Nat->Nat->WK}{xs:LV}(h:St W w L)(hk:L[k]?=some (own b n c 1 xs))(hbound:n+s.size<=140737488355328)
 (hK:∀b' c' w',St W w' (L.set k (own b' (n+s.size) c' 1 (xs++strCells s)))->K b' (n+s.size) c' w'):CA b n c s K w:=
 Ho h hk (by rw[strCells_length];omega) rfl (by omega) (by omega) (Eu s) hK
def OZ{bytes:Nat}{zero:LV}{len cap:Int}{K:OA->Nat->Nat->WK}(h:St W w L)(h0:0<=len/\len<=cap/\cap<=9223372036854775807/\cap* bytes<=281474976710656)
 (hK:∀r w',St W w' (own (some ⟨r,0,none⟩) len.toNat cap.toNat zero.length (Builtin.zeroCells ⟨zero⟩ len.toNat).toList::L)->K (some ⟨r,0,none⟩) len.toNat cap.toNat w'):Gx bytes zero len cap K w:=by
 refine⟨h0,λt=>hK _ _ ?_⟩;have R6:=h.new (Builtin.zeroCells ⟨zero⟩ cap.toNat).toList t;refine St.mono R6 λg hp=>⟨kW _ _,.inr ⟨_,(Builtin.zeroCells ⟨zero⟩ (cap.toNat-len.toNat)).toList,rfl,by omega,kW _ _,?_⟩⟩;have uz:(Builtin.zeroCells ⟨zero⟩ cap.toNat).toList=(Builtin.zeroCells ⟨zero⟩ len.toNat).toList++(Builtin.zeroCells ⟨zero⟩ (cap.toNat-len.toNat)).toList:=by
  have key:∀p q,(Builtin.zeroCells ⟨zero⟩ (p+q)).toList=(Builtin.zeroCells ⟨zero⟩ p).toList++(Builtin.zeroCells ⟨zero⟩ q).toList:=by
   intro p q;simp only[Builtin.zeroCells,AB,Array.toList_range];rw[lq,List.range_add,cS,y6]
   congr 1
   apply od;intro j _;simp only[Function.comp]
   congr 1
   rw[Nat.add_comm,Nat.add_mul_mod_self_right]
  rw[<-key];congr 2;omega
 rw[<-uz];exact hp
end
end Go.Sep
namespace Go.bE
open Go.Den
def jY(n:Nat):BA:=⟨(aM n 0).toArray⟩
def ry(n:Nat):(jY n).size=n:=by simp[jY,ByteArray.size]
structure ba where
 safe:List BA
 later:List (Int×BA)
 ops:Int
 arm:Int
namespace ba
def new(n:Int):ba:=⟨aM (min2 (max2 n 0) 4096).toNat (jY 128),[],0,0⟩
def is(D:ba)(i:Int):Prop:=0<=i/\i<D.safe.length
instance(D:ba)(i:Int):Decidable (D.is i):=by unfold is;infer_instance
def tick(D:ba):ba:={D with ops:=ag.wrap (D.ops+1),arm:=if D.arm=0 then 0 else ag.wrap (D.arm-1)}
def yO(D:ba):Bool:= !(D.arm==0)&&(ag.wrap (D.arm-1)==0)
def last(l:List (Int×BA))(i:Int):Option BA:=(l.reverse.find? λp=>p.1==i).map (·.2)
def now(D:ba)(i:Int):BA:=(last D.later i).getD (D.safe.getD i.toNat .empty)
def read(D:ba)(i:Int):BA×Int:=if D.is i then(D.now i,0) else(.empty,1)
def pad(s:BA):BA:=s++jY (128-s.size)
def write(D:ba)(i:Int)(s:BA):ba×Int:=
 if ¬D.is i\/128<s.size then(D,1) else if D.yO then(D.tick,8) else({D.tick with later:=D.later++[(i,pad s)]},0)
def put(safe:List BA)(p:Int×BA):List BA:=safe.set p.1.toNat p.2
def sync(D:ba):ba×Int:=if D.yO then(D.tick,8) else({D.tick with safe:=D.later.foldl put D.safe,later:=[]},0)
structure Ok(D:ba):Prop where
 safe:∀s∈D.safe,s.size=128
 later:∀p∈D.later,p.2.size=128/\0<=p.1/\p.1<D.safe.length
 oK:D.safe.length<=4096
 less:D.later.length<1099511627776
end ba
end Go.bE
namespace Go.Prog
open Go.Den Go.RowKit
def BK(l:List UInt8):Nat->List UInt8
 |0=>[]
 |n+1=>l++BK l n
def strings_Repeat(s:BA)(n:Int)(K:VK):WK:=λw=>
 (0<=n/\s.size* n.toNat<=140737488355328/\n<=9223372036854775807)/\∀w',Below w.heap.size w w'->K (.s ⟨(BK s.data.toList n.toNat).toArray⟩) w'
def strings_Repeat.u:WP:=λargs K=>match args with|[.string s,.int .i64 n]=>strings_Repeat s n K|_=>no
end Go.Prog
namespace Go.Prog
open Go.Den
abbrev LI:=List Value->World->Prop
abbrev LM:=List Value->World->Nat
abbrev lp(a:LV)(B:LI->LM->Prop):WK:=λw=>∃I μ,I a w/\B I μ
abbrev ct(I:LI)(μ:LM)(b a:LV)(w:World):WK:=λv=>I b v/\μ b v<μ a w
abbrev aT(n:Nat)(a:Addr)(cs:LV)(X:WK):WK:=aY (cs.length=n) (fH a cs X)
abbrev Je(n:Nat)(cs:LV)(F:Nat->WK):WK:=aY (cs.length=n/\True) (mk (cs++[]) F)
abbrev lI(a:Addr)(K:Int->WK):WK:=ld a (xI .i64 K)
abbrev lU(a:Addr)(K:Int->WK):WK:=ld a (xI .u64 K)
abbrev lB(a:Addr)(K:Int->WK):WK:=ld a (xI .u8 K)
abbrev lP(a:Addr)(K:OA->WK):WK:=ld a (xP K)
abbrev lL(a:Addr)(K:OA->Nat->Nat->WK):WK:=ld a (xL K)
abbrev lT(a:Addr)(K:Bool->WK):WK:=ld a (xB K)
abbrev lS(a:Addr)(K:ByteArray->WK):WK:=ld a (xS K)
abbrev YC:LV:=[.int .u8 0,.int .u8 0,.int .u8 0,.int .u8 0,.int .u8 0,.int .u8 0,.int .u8 0,.int .u8 0,.int .u8 0,.int .u8 0,.int .u8 0,.int .u8 0,.int .u8 0,.int .u8 0,.int .u8 0,.int .u8 0]
abbrev u4:LV:=[.int .i64 0,.int .i64 0,.int .u64 0,.int .u64 0]
abbrev zi4:LV:=[.int .i64 0,.int .i64 0,.int .i64 0,.int .i64 0]
abbrev zi5:LV:=[.int .i64 0,.int .i64 0,.int .i64 0,.int .i64 0,.int .i64 0]
abbrev bR:LV:=[.int .i64 0,.slice none 0 0,.slice none 0 0,.int .i64 0,.slice none 0 0,.int .u64 0,.int .u64 0,.int .i64 0,.int .i64 0,.bool false,.bool false,.bool false,.int .i64 0]
abbrev CS:LV:=[.int .i64 0,.slice none 0 0,.slice none 0 0,.slice none 0 0]
abbrev cN:LV:=[.int .u64 0,.int .u64 0,.int .u64 0,.int .u64 0,.int .u64 0,.int .u64 0,.int .u64 0,.int .u64 0,.int .u64 0,.int .u64 0,.int .i64 0,.int .i64 0,.int .i64 0,.int .i64 0]
abbrev lA:LV:=[.int .u64 0,.int .u64 0,.int .u64 0,.int .u64 0,.int .u64 0,.int .u64 0,.int .u64 0,.int .u64 0,.int .u64 0,.int .u64 0,.int .i64 0,.int .i64 0,.int .i64 0,.int .i64 0,.int .u64 0,.int .u64 0,.int .u64 0,.int .u64 0,.int .u64 0,.int .u64 0,.int .u64 0,.int .u64 0,.int .u64 0,.int .u64 0,.int .i64 0,.int .i64 0,.int .i64 0,.int .i64 0]
abbrev bZ:LV:=[.int .u64 0,.int .u64 0,.int .u64 0,.int .u64 0,.int .u64 0,.int .u64 0,.int .u64 0,.int .u64 0,.int .u64 0,.int .u64 0,.int .i64 0,.int .i64 0,.int .i64 0,.int .i64 0,.int .i64 0,.int .i64 0]
abbrev cV:LV:=[.int .u64 0,.int .u64 0,.int .u64 0,.int .u64 0,.int .u64 0,.int .u64 0,.int .u64 0,.int .u64 0,.int .u64 0,.int .u64 0,.int .i64 0,.int .i64 0,.int .i64 0,.int .i64 0,.int .i64 0,.int .i64 0,.int .u64 0,.int .u64 0,.int .u64 0,.int .u64 0,.int .u64 0,.int .u64 0,.int .u64 0,.int .u64 0,.int .u64 0,.int .u64 0,.int .i64 0,.int .i64 0,.int .i64 0,.int .i64 0,.int .i64 0,.int .i64 0,.int .i64 0]
abbrev FC:LV:=[.int .u64 0,.int .u64 0,.int .i64 0,.int .i64 0,.bool false,.bool false,.bool false,.int .i64 0]
abbrev Jw:LV:=[.int .u64 0,.int .u64 0,.int .i64 0,.int .u8 0]
abbrev wK:LV:=[.int .u64 0,.int .u64 0,.int .u64 0,.int .u64 0,.int .u64 0,.int .u64 0]
abbrev Ns:LV:=aM 256 (.bool false)
def nP(K:VK):WK:=strings_Repeat (⟨#[0]⟩:BA) 128 (xS λa=>K (.s a))
def qt(n:Int)(K:VK):WK:=aY True (mk [.l none 0 0,.l none 0 0,.i 0,.i 0] λo=>(λq=>∃(e:LV->World->Prop)(k:LV->World->Nat),e [.p none,.p (some (⟨o,0,none⟩:Addr)),.i (min2 (max2 n 0) 4096),.i 0] q/\∀(d:OA)(a:Addr)(b:Int)(c:Int)(f:World),e [.p d,.p (some a),.i b,.i c] f->(br (decide (c<b)) (tick (ld (a.add 0) (xL λg h j=>nP (xS λr=>kp (a.add 0) [.l g h j] (aY (1=1/\True) (mk [.s r] λt=>kp (a.add 0) [.l g h j] (jO 1 16 [.s .empty] g h j (ai t) 1 λu v w=>st (a.add 0) (.l u v w) ((λm=>e [.p d,.p (some a),.i b,.i (ag.wrap (c+1))] m/\k [.p d,.p (some a),.i b,.i (ag.wrap (c+1))] m<k [.p d,.p (some a),.i b,.i c] f))))))))) (K (.p (some a)))) f))
def mh(a:OA)(c:Int)(K:VK):WK:=br (!(a.isNone)) (br (decide (c>=0)) (nn a λd=>ld (d.add 0) (xL λf e g=>K (.b (decide (c<(e:Int)))))) (K (.b false))) (K (.b false))
def jK(a:OA)(K:VK):WK:=nn a λc=>ld (c.add 2) (xI .i64 λd=>nn a λe=>st (e.add 2) (.i (ag.wrap (d+1))) (nn a λf=>ld (f.add 3) (xI .i64 λg=>br (g==0) (K (.b false)) (nn a λh=>ld (h.add 3) (xI .i64 λj=>nn a λk=>st (k.add 3) (.i (ag.wrap (j-1))) (nn a λl=>ld (l.add 3) (xI .i64 λm=>K (.b (m==0)))))))))
def dA.j1(K:VK)(a:OA)(b:BA)(h:Int)(j:Bool):WK:=br j (K (.i 1)) (jK a (xB λk=>br k (K (.i 8)) (tick (nn a λc=>ld (c.add 1) (xL λd e f=>nP (xS λm=>kp (c.add 1) [.l d e f] (iW m (some (b.size:Int)) none λg=>aY (((b.size+g.size:Nat):Int)<=9223372036854775807) (aY (1=1/\(1=1/\True)) (aY (2=2/\True) (mk [.i h,.s (b++g)] λn=>kp (c.add 1) [.l d e f] (jO 2 24 [.i 0,.s .empty] d e f (ai n) 1 λo p q=>nn a λr=>st (r.add 1) (.l o p q) (K (.i 0)))))))))))))
def dA(a:OA)(b:Int)(c:BA)(K:VK):WK:=br (a.isNone) (K (.i 2)) (mh a b (xB λd=>br (!d) (dA.j1 K a c b true) (dA.j1 K a c b (decide ((c.size:Int)>128)))))
def gS(b:OA)(e:Int)(K:VK):WK:=br (b.isNone) (K (.tuple ⟨[.s .empty,.i 2]⟩)) (mh b e (xB λk=>br (!k) (K (.tuple ⟨[.s .empty,.i 1]⟩)) (nn b λl=>ld (l.add 1) (xL λE m F=>(λn=>∃(f:LV->World->Prop)(h:LV->World->Nat),f [.s .empty,.i 0,.i (ag.wrap ((m:Int) -1))] n/\∀(c:BA)(d:Int)(a:Int)(g:World),f [.s c,.i d,.i a] g->(br (decide (a>=0)) (nn b λo=>ld (o.add 1) (xL λp q G=>gp p q a 2 λr=>ld (r.add 0) (xI .i64 λt=>br (t==e) (nn b λu=>ld (u.add 1) (xL λv w H=>gp v w a 2 λx=>ld (x.add 1) (xS λy=>K (.tuple ⟨[.s y,.i 0]⟩)))) ((λj=>f [.s c,.i d,.i (ag.wrap (a-1))] j/\h [.s c,.i d,.i (ag.wrap (a-1))] j<h [.s c,.i d,.i a] g))))) (nn b λz=>ld (z.add 0) (xL λA B I=>gp A B e 1 λC=>ld C (xS λD=>K (.tuple ⟨[.s D,.i 0]⟩))))) g)))))
def dL(a:OA)(K:VK):WK:=br (a.isNone) (K (.i 0)) (nn a λb=>ld (b.add 0) (xL λd c e=>K (.i (c:Int))))
def iI(b:OA)(K:VK):WK:=br (b.isNone) (K (.i 2)) (jK b (xB λq=>br q (K (.i 8)) (nn b λr=>ld (r.add 1) (xL λt m u=>(λv=>∃(h:LV->World->Prop)(n:LV->World->Nat),h [.i 0,.l t m u,.i (m:Int),.i 0] v/\∀(f:Int)(c:OA)(d:Nat)(g:Nat)(e:Int)(a:Int)(j:World),h [.i f,.l c d g,.i e,.i a] j->(br (decide (a<e)) (gp c d a 2 λw=>aD w 2 λo=>mk [.i 0,.s .empty] λk=>aY (o.length=2) (fH (⟨k,0,none⟩:Addr) o (tick (nn b λx=>ld (x.add 0) (xL λy z E=>ld ((⟨k,0,none⟩:Addr).add 0) (xI .i64 λA=>ld ((⟨k,0,none⟩:Addr).add 1) (xS λB=>gp y z A 1 λC=>st C (.s B) ((λp=>h [.i f,.l c d g,.i e,.i (ag.wrap (a+1))] p/\n [.i f,.l c d g,.i e,.i (ag.wrap (a+1))] p<n [.i f,.l c d g,.i e,.i a] j))))))))) (nn b λD=>st (D.add 1) (.l none 0 0) (K (.i 0)))) j)))))
def jt(a:Int)(K:VK):WK:=aY ((104:Int)≠0) (aY ((104:Int)≠0) (K (.i (max2 (ag.wrap ((ag.wrap ((max2 a 0).tdiv (104:Int)))+(min2 ((max2 a 0).tmod (104:Int)) 1))) 1))))
def rE(c:LV)(K:VK):WK:=mk c λa=>ld ((⟨a,0,none⟩:Addr).add 0) (xI .i64 λd=>br (decide (d>=1)) (ld ((⟨a,0,none⟩:Addr).add 0) (xI .i64 λe=>br (decide (e<=1152921504606846976)) (ld ((⟨a,0,none⟩:Addr).add 1) (xI .i64 λf=>br (decide (f>=0)) (ld ((⟨a,0,none⟩:Addr).add 1) (xI .i64 λg=>br (decide (g<4096)) (ld ((⟨a,0,none⟩:Addr).add 2) (xS λh=>K (.b (decide ((h.size:Int)<=104))))) (K (.b false)))) (K (.b false)))) (K (.b false)))) (K (.b false)))
def aQ(e:OA)(n o:Int)(K:VK):WK:=(λp=>∃(c:LV->World->Prop)(f:LV->World->Nat),c [.i (min2 (max2 n 1) 8),.i 0] p/\∀(b:Int)(a:Int)(d:World),c [.i b,.i a] d->(br (decide (a<b)) (tick (nn e λg=>ld (g.add 0) (xL λh j k=>aY ((0:Int)<=(ag.wrap (8* a))) (aY (1=1/\True) (mk [.int .u8 (IntKind.u8.wrap (shr .i64 o (ag.wrap (8* a))))] λq=>kp (g.add 0) [.l h j k] (jO 1 1 [.int .u8 0] h j k (ai q) 1 λr s t=>nn e λu=>st (u.add 0) (.l r s t) ((λm=>c [.i b,.i (ag.wrap (a+1))] m/\f [.i b,.i (ag.wrap (a+1))] m<f [.i b,.i a] d)))))))) (K (.tuple ⟨[]⟩))) d)
def iM(a:OA)(b:BA)(K:VK):WK:=nn a λc=>ld (c.add 0) (xL λd e f=>CA d e f b λg h i=>nn a λj=>st (j.add 0) (.l g h i) (K (.tuple ⟨[]⟩)))
def pk(a:Int)(K:VK):WK:=aY ((0:Int)<=8) (aY ((0:Int)<=16) (aY ((0:Int)<=24) (aY (1=1/\(1=1/\(1=1/\(1=1/\True)))) (mk [.int .u8 (IntKind.u8.wrap a),.int .u8 (IntKind.u8.wrap (shr .u32 a 8)),.int .u8 (IntKind.u8.wrap (shr .u32 a 16)),.int .u8 (IntKind.u8.wrap (shr .u32 a 24))] λb=>Np (ai b) 4 λc=>K (.s c)))))
def rT(F:Int)(v:BA)(K:VK):WK:=(λG=>∃(w:LV->World->Prop)(B:LV->World->Nat),w [.int .u32 0,.int .u32 (ch .u32 .xor 4294967295 F),.i (v.size:Int),.i 0] G/\∀(x:Int)(d:Int)(h:Int)(a:Int)(y:World),w [.int .u32 x,.int .u32 d,.i h,.i a] y->(br (decide (a<h)) (ss v a λk=>(λH=>∃(z:LV->World->Prop)(C:LV->World->Nat),z [.int .u32 x,.int .u32 (ch .u32 .xor d (IntKind.u32.wrap (k.toNat:Int))),.i a,.i h,.i a,.b (decide (a<h)),.i a,.int .u32 d,.s v,.i a,.int .u8 (k.toNat:Int),.int .u32 (IntKind.u32.wrap (k.toNat:Int)),.int .u32 (ch .u32 .xor d (IntKind.u32.wrap (k.toNat:Int))),.i 0] H/\∀(e:Int)(c:Int)(l:Int)(f:Int)(g:Int)(m:Bool)(n:Int)(o:Int)(p:BA)(q:Int)(r:Int)(t:Int)(u:Int)(j:Int)(A:World),z [.int .u32 e,.int .u32 c,.i l,.i f,.i g,.b m,.i n,.int .u32 o,.s p,.i q,.int .u8 r,.int .u32 t,.int .u32 u,.i j] A->(br (decide (j<8)) (aY ((0:Int)<=1) ((λD=>z [.int .u32 e,.int .u32 (ch .u32 .xor (shr .u32 c 1) (ch .u32 .and 2197175160 (IntKind.u32.wrap (0-(ch .u32 .and c 1))))),.i l,.i f,.i g,.b m,.i n,.int .u32 o,.s p,.i q,.int .u8 r,.int .u32 t,.int .u32 u,.i (ag.wrap (j+1))] D/\C [.int .u32 e,.int .u32 (ch .u32 .xor (shr .u32 c 1) (ch .u32 .and 2197175160 (IntKind.u32.wrap (0-(ch .u32 .and c 1))))),.i l,.i f,.i g,.b m,.i n,.int .u32 o,.s p,.i q,.int .u8 r,.int .u32 t,.int .u32 u,.i (ag.wrap (j+1))] D<C [.int .u32 e,.int .u32 c,.i l,.i f,.i g,.b m,.i n,.int .u32 o,.s p,.i q,.int .u8 r,.int .u32 t,.int .u32 u,.i j] A))) ((λE=>w [.int .u32 e,.int .u32 c,.i f,.i (ag.wrap (g+1))] E/\B [.int .u32 e,.int .u32 c,.i f,.i (ag.wrap (g+1))] E<B [.int .u32 x,.int .u32 d,.i h,.i a] y))) A)) (K (.int .u32 (ch .u32 .xor 4294967295 d)))) y)
def cF(a:OA)(K:VK):WK:=nn a λb=>ld (b.add 0) (xL λc d f=>Np c d λe=>K (.s e))
def oE(c:LV)(K:VK):WK:=mk c λb=>aD (⟨b,0,none⟩:Addr) 3 λd=>rE d (xB λe=>br (!e) (K (.tuple ⟨[.s .empty,.i 1]⟩)) (aY True (mk [.l none 0 0] λa=>ld ((⟨b,0,none⟩:Addr).add 0) (xI .i64 λf=>aQ (some (⟨a,0,none⟩:Addr)) 8 f (x0 (ld ((⟨b,0,none⟩:Addr).add 1) (xI .i64 λg=>aQ (some (⟨a,0,none⟩:Addr)) 2 g (x0 (ld ((⟨b,0,none⟩:Addr).add 2) (xS λh=>aQ (some (⟨a,0,none⟩:Addr)) 2 (h.size:Int) (x0 (ld ((⟨b,0,none⟩:Addr).add 2) (xS λj=>iM (some (⟨a,0,none⟩:Addr)) j (x0 (ld ((⟨b,0,none⟩:Addr).add 2) (xS λk=>strings_Repeat (⟨#[0]⟩:BA) (ag.wrap (104-(k.size:Int))) (xS λm=>iM (some (⟨a,0,none⟩:Addr)) m (x0 (cF (some (⟨a,0,none⟩:Addr)) (xS λn=>rT 0 n (xI .u32 λo=>pk o (xS λp=>iM (some (⟨a,0,none⟩:Addr)) p (x0 (ld ((⟨b,0,none⟩:Addr).add 0) (xI .i64 λq=>aQ (some (⟨a,0,none⟩:Addr)) 8 q (x0 (cF (some (⟨a,0,none⟩:Addr)) (xS λr=>K (.tuple ⟨[.s r,.i 0]⟩)))))))))))))))))))))))))))))
def iH.j1(K:VK)(h:BA)(r g j:Int)(k:OA)(t:Bool):WK:=br t (K (.i 1)) (jt (h.size:Int) (xI .i64 λu=>br (decide (u>(ag.wrap (r-g)))) (K (.i 3)) ((λv=>∃(d:LV->World->Prop)(e:LV->World->Nat),d [.s h,.i 0,.i 0] v/\∀(a:BA)(c:Int)(b:Int)(f:World),d [.s a,.i c,.i b] f->(br (b==0) (iW a none (some (min2 (a.size:Int) 104)) λw=>aY (1=1/\(1=1/\(1=1/\True))) (oE [.i j,.i b,.s w] (x2 λx y=>(xS λz=>(xI .i64 λE=>dA k (ag.wrap (g+b)) z (xI .i64 λl=>br (l !=0) (K (.i l)) (iW a (some (min2 (a.size:Int) 104)) none λm=>(λn=>d [.s m,.i c,.i (ag.wrap (b+1))] n/\e [.s m,.i c,.i (ag.wrap (b+1))] n<e [.s a,.i c,.i b] f)))) y) x))) (br (decide ((a.size:Int)>0)) (iW a none (some (min2 (a.size:Int) 104)) λA=>aY (1=1/\(1=1/\(1=1/\True))) (oE [.i j,.i b,.s A] (x2 λB C=>(xS λD=>(xI .i64 λF=>dA k (ag.wrap (g+b)) D (xI .i64 λo=>br (o !=0) (K (.i o)) (iW a (some (min2 (a.size:Int) 104)) none λp=>(λq=>d [.s p,.i c,.i (ag.wrap (b+1))] q/\e [.s p,.i c,.i (ag.wrap (b+1))] q<e [.s a,.i c,.i b] f)))) C) B))) (K (.i 0)))) f))))
def iH(d:OA)(a b c:Int)(e:BA)(K:VK):WK:=br (decide (c<1)) (iH.j1 K e b a c d true) (br (decide (c>1152921504606846976)) (iH.j1 K e b a c d true) (br (decide (a<0)) (iH.j1 K e b a c d true) (dL d (xI .i64 λf=>br (decide (b>f)) (iH.j1 K e b a c d true) (iH.j1 K e b a c d (decide (a>b)))))))
def kY(a:BA)(K:VK):WK:=aY (1=1/\True) (mk [.s a,.b false] λc=>K (.p (some (⟨c,0,none⟩:Addr))))
def dy.j1(K:VK)(a:OA)(b:Int):WK:=nn a λc=>ld (c.add 0) (xS λd=>iW d none (some b) λe=>nn a λf=>ld (f.add 0) (xS λg=>iW g (some b) none λh=>nn a λi=>st (i.add 0) (.s h) (K (.s e))))
def dy(a:OA)(c:Int)(K:VK):WK:=br (a.isNone) (K (.s .empty)) (nn a λd=>ld (d.add 1) (xB λe=>br e (nn a λf=>st (f.add 1) (.b true) (nn a λg=>ld (g.add 1) (xB λh=>br h (K (.s .empty)) (dy.j1 K a c)))) (br (decide (c<0)) (nn a λi=>st (i.add 1) (.b true) (nn a λj=>ld (j.add 1) (xB λk=>br k (K (.s .empty)) (dy.j1 K a c)))) (nn a λl=>ld (l.add 0) (xS λm=>nn a λn=>st (n.add 1) (.b (decide (c>(m.size:Int)))) (nn a λo=>ld (o.add 1) (xB λp=>br p (K (.s .empty)) (dy.j1 K a c))))))))
def aF(p:OA)(q:Int)(K:VK):WK:=dy p (min2 (max2 q 1) 8) (xS λh=>s2b h λr s=>(λt=>∃(j:LV->World->Prop)(m:LV->World->Nat),j [.i 0,.i 0,.l (ai r) h.size s,.i (h.size:Int),.i 0] t/\∀(f:Int)(b:Int)(c:OA)(d:Nat)(g:Nat)(e:Int)(a:Int)(k:World),j [.i f,.i b,.l c d g,.i e,.i a] k->(br (decide (a<e)) (gp c d a 1 λu=>ld u (xI .u8 λn=>aY ((0:Int)<=(ag.wrap (8* a))) ((λo=>j [.i f,.i (ch .i64 .or b (shl .i64 (ag.wrap n) (ag.wrap (8* a)))),.l c d g,.i e,.i (ag.wrap (a+1))] o/\m [.i f,.i (ch .i64 .or b (shl .i64 (ag.wrap n) (ag.wrap (8* a)))),.l c d g,.i e,.i (ag.wrap (a+1))] o<m [.i f,.i b,.l c d g,.i e,.i a] k)))) (K (.i b))) k))
def aF.u:WP|[.pointer a,.int .i64 b],K=>aF a b K|_,_=>no
def ud(h:BA)(K:VK):WK:=mk [.i 0,.i 0] λo=>mk [.i 0,.i 0] λq=>tick (iW h none (some 8) λr=>iW h (some (ag.wrap ((h.size:Int) -8))) none λt=>aY (1=1/\(1=1/\True)) ((λu=>∃(f:LV->World->Prop)(e:LV->World->Nat),f [.p (some (⟨o,0,none⟩:Addr)),.p (some (⟨q,0,none⟩:Addr)),.agg ⟨[.s r,.s t]⟩,.i 0] u/\∀(b:Addr)(c:Addr)(d:LV)(a:Int)(g:World),f [.p (some b),.p (some c),.agg ⟨d⟩,.i a] g->(br (decide (a<2)) (yF d 2 a (xS λv=>kY v (xP λw=>aF w 8 (xI .i64 λj=>br (decide (j>=1)) (br (decide (j<=1152921504606846976)) (aY ((0:Int)<=a/\a<2) (st (c.add (a.toNat* 1)) (.i j) ((λk=>f [.p (some b),.p (some c),.agg ⟨d⟩,.i (ag.wrap (a+1))] k/\e [.p (some b),.p (some c),.agg ⟨d⟩,.i (ag.wrap (a+1))] k<e [.p (some b),.p (some c),.agg ⟨d⟩,.i a] g)))) ((λl=>f [.p (some b),.p (some c),.agg ⟨d⟩,.i (ag.wrap (a+1))] l/\e [.p (some b),.p (some c),.agg ⟨d⟩,.i (ag.wrap (a+1))] l<e [.p (some b),.p (some c),.agg ⟨d⟩,.i a] g))) ((λm=>f [.p (some b),.p (some c),.agg ⟨d⟩,.i (ag.wrap (a+1))] m/\e [.p (some b),.p (some c),.agg ⟨d⟩,.i (ag.wrap (a+1))] m<e [.p (some b),.p (some c),.agg ⟨d⟩,.i a] g)))))) (aD c 2 λn=>aY (n.length=2) (fH b n (aD b 2 λx=>K (.agg ⟨x⟩))))) g)))
def kZ(h:OA)(K:VK):WK:=dL h (xI .i64 λo=>(λp=>∃(e:LV->World->Prop)(j:LV->World->Nat),e [.i 0,.i 0,.i o,.i 0] p/\∀(d:Int)(b:Int)(c:Int)(a:Int)(f:World),e [.i d,.i b,.i c,.i a] f->(br (decide (a<c)) (gS h a (x2 λq r=>(xS λs=>(xI .i64 λt=>ud s (xA 2 λk=>mk [.i 0,.i 0] λg=>aY (k.length=2) (fH (⟨g,0,none⟩:Addr) k (aY ((0:Int)<=0/\(0:Int)<2) (ld ((⟨g,0,none⟩:Addr).add ((0:Int).toNat* 1)) (xI .i64 λl=>aY ((0:Int)<=1/\(1:Int)<2) (ld ((⟨g,0,none⟩:Addr).add ((1:Int).toNat* 1)) (xI .i64 λm=>(λn=>e [.i d,.i (max2 (max2 b l) m),.i c,.i (ag.wrap (a+1))] n/\j [.i d,.i (max2 (max2 b l) m),.i c,.i (ag.wrap (a+1))] n<j [.i d,.i b,.i c,.i a] f))))))))) r) q)) (K (.i b))) f))
end Go.Prog
namespace Go.Sep
open Go.Den Go.RowKit Go.Prog Go.bE
def jM(l:List (Int×BA)):LV:=l.flatMap λp=>[.i p.1,.s p.2]
def vF(l:List (Int×BA))(i:Nat)(p:Int×BA)(h:l[i]?=some p):
 (jM l)[i* 2]?=some (.i p.1)/\(jM l)[i* 2+1]?=some (.s p.2):=by
 induction l generalizing i with
 |nil=>simp at h
 |cons q l ih=>
  cases i with
  |zero=>simp at h;subst h;exact⟨rfl,rfl⟩
  |succ i=>
   simp only[aW] at h;have:=ih i h;rw[show(i+1)* 2=(i* 2)+2 from by omega,show i* 2+2+1=(i* 2+1)+2 from by omega];exact this
def wv(sb lb:OA)(n sc m lc:Nat)(ops arm:Int):LV:=[.l sb n sc,.l lb m lc,.i ops,.i arm]
def ft(d:Nat)(D:ba):HP:=Py λ(v:(OA×Nat)×(OA×Nat))=>
 sep (pt d (wv v.1.1 v.2.1 D.safe.length v.1.2 D.later.length v.2.2 D.ops D.arm))
  (sep (own v.1.1 D.safe.length v.1.2 1 (D.safe.map .string)) (own v.2.1 D.later.length v.2.2 2 (jM D.later)))
section
variable {W w:World} {L:LH} {k d:Nat} {D:ba}
def tI(h:St W w L)(hk:L[k]?=some (ft d D)):∃sb sc lb lc,
 St W w (pt d (wv sb lb D.safe.length sc D.later.length lc D.ops D.arm)::own sb D.safe.length sc 1 (D.safe.map .string)::own lb D.later.length lc 2 (jM D.later)::L.eraseIdx k):=by
 obtain⟨⟨⟨sb,sc⟩,lb,lc⟩,h1⟩:=(h.focus hk).ex;have h2:=h1.split;have h3:=(h2.perm (bA.swap _ _ _)).split;refine⟨sb,sc,lb,lc,h3.perm ?_⟩;exact(bA.cons _ (bA.swap _ _ _)).trans (bA.swap _ _ _)
def rP{sb lb:OA}{sc lc n m:Nat}{safe:List BA}{later:List (Int×BA)}{ops arm:Int}{A:HP}(hk:L[k]?=some A)(hn:n=safe.length)(hm:m=later.length)
 (h:St W w (pt d (wv sb lb n sc m lc ops arm)::own sb n sc 1 (safe.map .string)::own lb m lc 2 (jM later)::L.eraseIdx k)):St W w (L.set k (ft d ⟨safe,later,ops,arm⟩)):=by
 subst hn hm;refine St.oS (A:=A) ?_ hk;refine St.nT ((sb,sc),(lb,lc)) (St.join ?_);refine St.perm ?_ (bA.swap _ _ _);exact St.join (h.perm ((bA.swap _ _ _).trans (bA.cons _ (bA.swap _ _ _))))
def D8(h:St W w L)(hk:L[k]?=some (ft d D)):∃sb sc lb lc,w.cell? ⟨d,0,none⟩=some (.l sb D.safe.length sc)/\w.cell? ⟨d,1,none⟩=some (.l lb D.later.length lc)/\
 w.cell? ⟨d,2,none⟩=some (.i D.ops)/\w.cell? ⟨d,3,none⟩=some (.i D.arm):=by
 obtain⟨sb,sc,lb,lc,hs⟩:=tI h hk;exact⟨sb,sc,lb,lc,(hs.cell (k:=0) rfl).1,(hs.cell (k:=0) rfl).1,(hs.cell (k:=0) rfl).1,(hs.cell (k:=0) rfl).1⟩
def y4{i:Int}{K:VK}(h:St W w L)(hk:L[k]?=some (ft d D))(hK:K (.b (decide (D.is i))) w):mh (ai d) i K w:=by
 obtain⟨sb,sc,lb,lc,h0,_⟩:=D8 h hk;unfold mh;simp only[nz,ae,af];refine dY (λhi=>O7 h0 ?_) (λhi=>?_)
 ·simp only[nz,ae,af];have e:decide (i<(D.safe.length:Int))=decide (D.is i):=decide_eq_decide.2 (by unfold ba.is;omega);rw[e];exact hK
 ·have e:false=decide (D.is i):=(ay (by unfold ba.is;omega)).symm;rw[e];exact hK
def uR{K:VK}(h:St W w L)(hk:L[k]?=some (ft d D))(hK:∀w',St W w' (L.set k (ft d D.tick))->K (.b D.yO) w'):jK (ai d) K w:=by
 obtain⟨sb,sc,lb,lc,hs⟩:=tI h hk;unfold jK;simp only[nz,ae,af];apply cy (k:=0) hs rfl rfl;simp only[nz,ae,af];refine mV (k:=0) hs rfl (aH rfl) rfl λw hs=>?_;simp only[nz,ae,af] at hs;apply cy (k:=0) hs rfl rfl;simp only[nz,ae,af];refine Hj (λh0=>?_) (λh0=>?_)
 ·have e:D.tick=⟨D.safe,D.later,ag.wrap (D.ops+1),D.arm⟩:=by simp[ba.tick,h0]
  have e2:D.yO=false:=by simp[ba.yO,h0]
  rw[e,e2] at hK;exact hK _ (rP hk rfl rfl hs)
 ·apply cy (k:=0) hs rfl rfl;simp only[nz,ae,af];refine mV (k:=0) hs rfl (aH rfl) rfl λw hs=>?_;simp only[nz,ae,af] at hs;apply cy (k:=0) hs rfl rfl;simp only[nz,ae,af];have e:D.tick=⟨D.safe,D.later,ag.wrap (D.ops+1),ag.wrap (D.arm-1)⟩:=by simp[ba.tick,h0]
  have e2:D.yO=(ag.wrap (D.arm-1)==0):=by simp[ba.yO,h0]
  rw[e,e2] at hK;exact hK _ (rP hk rfl rfl hs)
end
section
variable {W w:World} {L:LH} {k d:Nat} {D:ba}
def BJ(c:UInt8):∀n,BK [c] n=aM n c
 |0=>rfl
 |n+1=>by simp[BK,BJ c n,List.replicate_succ]
def Ax{s:BA}{n:Int}{K:VK}(h:St W w L)(h0:0<=n)(h1:s.size* n.toNat<=140737488355328)(h2:n<=9223372036854775807)(hK:∀w',St W w' L->K (.s ⟨(BK s.data.toList n.toNat).toArray⟩) w'):strings_Repeat s n K w:=
 ⟨⟨h0,h1,h2⟩,λw' hb=>hK w' (h.qD hb)⟩
def Cy{K:VK}(h:St W w L)(hK:∀w',St W w' L->K (.s (jY 128)) w'):nP K w:=by
 unfold nP;refine Ax h (by decide) (by decide) (by decide) λw h=>?_;simp only[nz,ae,af];have e:(⟨(BK (⟨#[0]⟩:BA).data.toList (128:Int).toNat).toArray⟩:BA)=jY 128:=by
  show(⟨(BK [0] 128).toArray⟩:BA)=_;rw[BJ];rfl
 rw[e];exact hK w h
def kG{K:VK}(h:St W w L)(hk:L[k]?=some (ft d D))(hK:K (.i (D.safe.length:Int)) w):dL (ai d) K w:=by
 obtain⟨sb,sc,lb,lc,h0,h1,h2,h3⟩:=D8 h hk;unfold dL;simp only[nz,ae,af];apply O7 h0;simp only[nz,ae,af];exact hK
def vj(s:BA)(i j:Nat):(s.extract i j).size=min j s.size-i:=by simp[ByteArray.size_extract]
def CT(n i:Nat):(jY n).extract i n=jY (n-i):=by
 apply ByteArray.ext;simp[jY,ByteArray.data_extract]
def xw{i:Int}{s:BA}{b:Bool}{K:VK}(h:St W w L)(hk:L[k]?=some (ft d D))(iw:D.Ok)(hb:b=decide (128<s.size))(hi:D.is i)
 (hK:∀w',St W w' (L.set k (ft d (D.write i s).1))->K (.i (D.write i s).2) w'):dA.j1 K (ai d) s i b w:=by
 unfold dA.j1;refine qS (λh1=>?_) (λh1=>?_)
 ·have h2:128<s.size:=by rw[hb] at h1;exact bG h1
  have e:D.write i s=(D,1):=by simp[ba.write,h2]
  rw[e] at hK;apply hK w;rw[kr hk];exact h
 ·have h2: ¬128<s.size:=by rw[hb] at h1;exact cD h1
  refine uR h hk λw h=>?_;simp only[nz,ae,af];refine qS (λh3=>?_) (λh3=>?_)
  ·have e:D.write i s=(D.tick,8):=by simp[ba.write,h2,hi,h3]
   rw[e] at hK;exact hK w h
  ·have e:D.write i s=({D.tick with later:=D.later++[(i,ba.pad s)]},0):=by simp[ba.write,h2,hi,h3]
   rw[e] at hK;refine km h λw h=>?_;have wI:(L.set k (ft d D.tick))[k]?=some (ft d D.tick):=gR hk;obtain⟨sb,sc,lb,lc,hs⟩:=tI h wI;apply cy (k:=0) hs rfl rfl;simp only[nz,ae,af];refine Cy hs λw hs=>?_;simp only[nz,ae,af];apply ig (k:=0) hs rfl rfl;have oI:(jY 128).size=128:=ry 128;unfold iW;simp only[nz,ae,af];refine⟨⟨by omega,by omega⟩,?_⟩;have e3:(jY 128).extract (s.size:Int).toNat (jY 128).size=jY (128-s.size):=by rw[oI,aq];exact CT 128 s.size
   rw[e3];refine⟨by rw[ry];omega,?_⟩;refine gh hs λr w hs=>?_;apply ig (k:=1) hs rfl rfl;have hl:D.later.length<1099511627776:=iw.less;refine rq (k:=3) (n:=D.tick.later.length) (ys:=[.i i,.s (ba.pad s)]) hs rfl (CD (k':=0) hs rfl rfl λj v hj=>by rw[az];exact hj) (by simp) rfl
    (by show(D.later.length+1)* 24<=_;omega) (by show D.later.length+1<=_;omega) (by simp[Value.oneCell']) λb' c' w hs=>?_
   simp only[nz,ae,af] at hs⊢;refine mV (k:=1) hs rfl (aH rfl) rfl λw hs=>?_;simp only[nz,ae,af] at hs;apply hK w;have e4:jM D.tick.later++[.i i,.s (ba.pad s)]=jM (D.later++[(i,ba.pad s)]):=by simp[jM,ba.tick]
   rw[e4] at hs;have h5:=rP (sb:=sb) (sc:=sc) (lb:=b') (lc:=c') (safe:=D.safe) (ops:=D.tick.ops) (arm:=D.tick.arm) wI rfl (by simp[ba.tick]) hs.drop;rw[gW] at h5;exact h5
def AP{i:Int}{s:BA}{K:VK}(h:St W w L)(hk:L[k]?=some (ft d D))(iw:D.Ok)
 (hK:∀w',St W w' (L.set k (ft d (D.write i s).1))->K (.i (D.write i s).2) w'):dA (ai d) i s K w:=by
 unfold dA;simp only[nz,ae,af];apply y4 h hk;simp only[nz,ae,af];by_cases hi:D.is i
 ·rw[aA hi];simp only[nz,ae,af];refine xw h hk iw ?_ hi hK;exact decide_eq_decide.2 (by omega)
 ·rw[ay hi];simp only[nz,ae,af];have e:D.write i s=(D,1):=by simp[ba.write,hi]
  rw[e] at hK;unfold dA.j1;simp only[nz,ae,af];apply hK w;rw[kr hk];exact h
end
def aS{n:Int}(h: -9223372036854775808<=n/\n<=9223372036854775807):ag.wrap n=n:=by
 simp only[IntKind.wrap,IntKind.bits,IntKind.signed,dX,decide_eq_true_eq,Int.reducePow,Nat.reduceSub,ge_iff_le];split<;>omega
def oe(i:Nat)(h:i<9223372036854775807:=by omega):ag.wrap ((i:Int)+1)=((i+1:Nat):Int):=by
 rw[aS (by omega)];omega
def sr(l m:List (Int×BA))(i:Int):ba.last (l++m) i=(ba.last m i).or (ba.last l i):=by
 unfold ba.last;rw[List.reverse_append,List.find?_append];cases List.find? (λp=>p.1==i) m.reverse<;>simp
def wo(p:Int×BA)(l:List (Int×BA))(i:Int):ba.last (p::l) i=(ba.last l i).or (if p.1==i then some p.2 else none):=by
 rw[show p::l=[p]++l from rfl,sr]
 congr 1
 simp only[ba.last,List.reverse_singleton,List.find?_cons,List.find?_nil];cases h:(p.1==i)<;>simp
section
variable {W w:World} {L:LH} {k d:Nat} {D:ba}
def drop_cons{α:Type}{l:List α}{j:Nat}{p:α}(h:l[j]?=some p):l.drop j=p::l.drop (j+1):=by
 obtain⟨hj,he⟩:=ar.1 h;rw[<-he];exact jX hj
def pv{i:Int}{K:VK}(h:St W w L)(hk:L[k]?=some (ft d D))(iw:D.Ok)(hK:K (.tuple ⟨[.s (D.read i).1,.i (D.read i).2]⟩) w):gS (ai d) i K w:=by
 obtain⟨sb,sc,lb,lc,hs⟩:=tI h hk;have hl:=iw.less;unfold gS;simp only[nz,ae,af];apply y4 h hk;simp only[nz,ae,af];by_cases hi:D.is i
 case neg=>
  rw[ay hi];simp only[nz,ae,af];have e:D.read i=(.empty,1):=by simp[ba.read,hi]
  rw[e] at hK;exact hK
 rw[aA hi];simp only[nz,ae,af];have e:D.read i=(D.now i,0):=by simp[ba.read,hi]
 rw[e] at hK;apply cy (k:=0) hs rfl rfl;simp only[nz,ae,af];refine⟨λus w'=>∃j:Nat,us=[.s .empty,.i 0,.i ((j:Int) -1)]/\w'=w/\j<=D.later.length/\ba.last (D.later.drop j) i=none,
  λus _=>match us with|[_,_,.int _ n]=>(n+1).toNat|_=>0,⟨D.later.length,by rw[aS (by omega)],rfl,aC _,by simp[ba.last]⟩,?_⟩
 rintro s1 n2 n3 w2 ⟨j,he,rfl,hj,hn⟩;cases he
 refine dY (λh0=>?_) (λh0=>?_)
 ·obtain⟨m,rfl⟩:∃m,j=m+1:=⟨j-1,by omega⟩;have bW:m<D.later.length:=by omega
  obtain⟨p,hp⟩:∃p,D.later[m]?=some p:=⟨D.later[m],by simp[bW]⟩;obtain⟨QM,AK⟩:=vF _ _ _ hp;have em:((m+1:Nat):Int) -1=(m:Int):=by omega
  rw[em];apply cy (k:=0) hs rfl rfl;simp only[nz,ae,af];refine uv (k:=2) hs rfl (by omega) λr hr=>?_;subst hr;simp only[nz,ae,af];refine zz (k:=2) hs rfl (v:=.i p.1) (by rw[aq];exact QM) ?_;simp only[nz,ae,af];refine Hj (λh1=>?_) (λh1=>?_)
  ·apply cy (k:=0) hs rfl rfl;simp only[nz,ae,af];refine uv (k:=2) hs rfl (by omega) λr' hr'=>?_;cases hr'
   simp only[nz,ae,af];refine zz (k:=2) hs rfl (v:=.s p.2) (by rw[aq];exact AK) ?_;simp only[nz,ae,af];have:D.now i=p.2:=by
    unfold ba.now;have uz:D.later=D.later.take m++(p::D.later.drop (m+1)):=by rw[<-drop_cons hp,u2]
    rw[uz,sr,wo,hn];simp[h1]
   rw[this] at hK;exact hK
  ·have e5:ag.wrap ((m:Int) -1)=(m:Int) -1:=aS (by omega);rw[e5];refine⟨⟨m,rfl,rfl,by omega,?_⟩,by omega⟩;rw[drop_cons hp,wo,hn];simp[h1]
 ·have hj0:j=0:=by omega
  subst hj0;have DQ:ba.last D.later i=none:=hn;apply cy (k:=0) hs rfl rfl;simp only[nz,ae,af];refine uv (k:=1) hs rfl hi λr hr=>?_;subst hr;have bW:i.toNat<D.safe.length:=by have:=hi.1;have:=hi.2;omega
  apply zz (k:=1) hs rfl (v:=.s (D.safe[i.toNat])) (by simp[bW]);simp only[nz,ae,af];have:D.now i=D.safe[i.toNat]:=by
   unfold ba.now;rw[DQ];simp[bW]
  rw[this] at hK;exact hK
def Qr{n:Int}{K:VK}(h:St W w L)(hK:∀d w',St W w' (ft d (ba.new n)::L)->K (.p (ai d)) w'):qt n K w:=by
 unfold qt;simp only[nz,ae,af];refine gh h λd w hs=>?_;have hn:0<=min2 (max2 n 0) 4096/\min2 (max2 n 0) 4096<=4096:=by unfold min2 max2;split<;>split<;>omega
 refine⟨λus w'=>∃(j:Nat)(b:OA)(c:Nat),us=[.p none,.p (ai d),.i (min2 (max2 n 0) 4096),.i j]/\(j:Int)<=min2 (max2 n 0) 4096/\
  St W w' (pt d [.l b j c,.l none 0 0,.i 0,.i 0]::own b j c 1 ((aM j (jY 128)).map .string)::L),
  λus _=>match us with|[_,_,.int _ m,.int _ j]=>(m-j).toNat|_=>0,⟨0,none,0,rfl,hn.1,?_⟩,?_⟩
 ·refine(hs.push (qh 1)).perm (bA.swap _ _ _)
 ·rintro p1 a1 n2 n3 w2 ⟨j,b,c,he,hj,hs⟩;cases he
  refine dY (λh0=>?_) (λh0=>?_)
  ·refine km hs λw hs=>?_;simp only[nz,ae,af];apply cy (k:=0) hs rfl rfl;simp only[nz,ae,af];refine Cy hs λw hs=>?_;simp only[nz,ae,af];apply ig (k:=0) hs rfl rfl;simp only[nz,ae,af];refine gh hs λr w hs=>?_;apply ig (k:=1) hs rfl rfl;refine rq (k:=2) (ys:=[.s (jY 128)]) hs rfl (CD (k':=0) hs rfl rfl λj v hj=>by rw[az];exact hj) (by simp) rfl (by omega) (by omega) (by simp[Value.oneCell']) λb' c' w hs=>?_;simp only[nz,ae,af] at hs⊢;refine mV (k:=1) hs rfl (aH rfl) rfl λw hs=>?_;simp only[nz,ae,af] at hs;have e5:=oe j;rw[e5];refine⟨⟨j+1,b',c',rfl,by omega,?_⟩,by omega⟩;have e6:(aM j (jY 128)).map Value.string++[.s (jY 128)]=(aM (j+1) (jY 128)).map .s:=by
    rw[List.replicate_succ'];simp
   rw[e6] at hs;exact hs.drop
  ·have QP:(j:Int)=min2 (max2 n 0) 4096:=by omega
   have hj3:j=(min2 (max2 n 0) 4096).toNat:=by omega
   have gJ:St W w2 (pt d [.l b j c,.l none 0 0,.i 0,.i 0]::own b j c 1 ((aM j (jY 128)).map .string)::own none 0 0 2 (jM [])::L):=
    (hs.push (A:=own none 0 0 2 (jM [])) (qh 2)).perm ((bA.swap _ _ _).trans (bA.cons _ (bA.swap _ _ _)))
   have:=rP (L:=ft d (ba.new n)::L) (k:=0) (A:=ft d (ba.new n)) (safe:=aM j (jY 128)) (later:=[]) (ops:=0) (arm:=0) rfl (by simp) rfl gJ;apply hK d w2;have e7:ba.new n=⟨aM j (jY 128),[],0,0⟩:=by unfold ba.new;rw[<-hj3]
   rw[e7];exact this
end
def nB(l:List (Int×BA))(safe:List BA):(l.foldl ba.put safe).length=safe.length:=by
 induction l generalizing safe with
 |nil=>rfl
 |cons p l ih=>rw[FB,ih];simp[ba.put]
def CV{α:Type}{l:List α}{j:Nat}{p:α}(h:l[j]?=some p):l.take (j+1)=l.take j++[p]:=by
 obtain⟨hj,he⟩:=ar.1 h;rw[nD hj,he]
section
variable {W w:World} {L:LH} {k d:Nat} {D:ba}
def se{K:VK}(h:St W w L)(hk:L[k]?=some (ft d D))(iw:D.Ok)(hK:∀w',St W w' (L.set k (ft d D.sync.1))->K (.i D.sync.2) w'):iI (ai d) K w:=by
 have hl:=iw.less;unfold iI;simp only[nz,ae,af];refine uR h hk λw h=>?_;simp only[nz,ae,af];refine qS (λhf=>?_) (λhf=>?_)
 ·have e:D.sync=(D.tick,8):=by simp[ba.sync,hf]
  rw[e] at hK;exact hK w h
 have e:D.sync=({D.tick with safe:=D.later.foldl ba.put D.safe,later:=[]},0):=by simp[ba.sync,hf]
 rw[e] at hK;have wI:(L.set k (ft d D.tick))[k]?=some (ft d D.tick):=gR hk;obtain⟨sb,sc,lb,lc,hs⟩:=tI h wI;apply cy (k:=0) hs rfl rfl;simp only[nz,ae,af];refine⟨λus w'=>∃j:Nat,us=[.i 0,.l lb D.later.length lc,.i D.later.length,.i j]/\j<=D.later.length/\
    St W w' (pt d (wv sb lb D.safe.length sc D.later.length lc D.tick.ops D.tick.arm)::own sb D.safe.length sc 1 (((D.later.take j).foldl ba.put D.safe).map .string)::own lb D.later.length lc 2 (jM D.later)::(L.set k (ft d D.tick)).eraseIdx k),
  λus _=>match us with|[_,_,_,.int _ j]=>D.later.length-j.toNat|_=>0,⟨0,rfl,aL _,hs⟩,?_⟩
 rintro n1 mg jJ mP n2 n3 w2 ⟨j,he,hj,hs⟩;cases he
 refine dY (λh0=>?_) (λh0=>?_)
 ·have bW:j<D.later.length:=by omega
  obtain⟨p,hp⟩:∃p,D.later[j]?=some p:=⟨D.later[j],by simp[bW]⟩;obtain⟨QM,AK⟩:=vF _ _ _ hp;obtain⟨Zw,hpa,hpb⟩:=iw.later p (iF hp);refine uv (k:=2) hs rfl (by omega) λr hr=>?_;subst hr;refine Kg (k:=2) (ys:=[.i p.1,.s p.2]) hs rfl rfl (λi v hi=>?_) ?_
  ·rw[aq]
   match i,hi with
   |0,hi=>simp at hi;subst hi;exact QM
   |1,hi=>simp at hi;subst hi;exact AK
  refine gh hs λr1 w hs=>?_;simp only[nz,ae,af];refine⟨rfl,ic (k:=0) hs rfl (aH rfl) (by simp[Value.oneCell']) λw hs=>?_⟩;simp only[nz,ae,af] at hs;refine km hs λw hs=>?_;apply cy (k:=1) hs rfl rfl;simp only[nz,ae,af];apply cy (k:=0) hs rfl rfl;simp only[nz,ae,af];apply cy (k:=0) hs rfl rfl;simp only[nz,ae,af];refine uv (k:=2) hs rfl ⟨hpa,hpb⟩ λr hr=>?_;subst hr;refine Ey (k:=2) hs rfl (by rw[cu,nB];omega) rfl λw hs=>?_;simp only[nz,ae,af] at hs;have e5:=oe j;rw[e5];refine⟨⟨j+1,rfl,by omega,?_⟩,by omega⟩;have e6:(((D.later.take j).foldl ba.put D.safe).map Value.string).set (p.1.toNat* 1) (.s p.2)=((D.later.take (j+1)).foldl ba.put D.safe).map .s:=by
   rw[CV hp,List.foldl_append,mQ];simp[ba.put,List.map_set]
  rw[e6] at hs;exact hs.drop
 ·have QP:j=D.later.length:=by omega
  subst QP;refine mV (k:=0) hs rfl (aH rfl) rfl λw hs=>?_;simp only[nz,ae,af] at hs;apply hK w;rw[bF] at hs;have y8:=(hs.perm ((bA.cons _ (bA.swap _ _ _)).trans (bA.swap _ _ _))).drop.push (qh 2);have A3:=y8.perm ((bA.swap _ _ _).trans (bA.cons _ (bA.swap _ _ _)));have h5:=rP (sb:=sb) (sc:=sc) (lb:=none) (lc:=0) (safe:=D.later.foldl ba.put D.safe) (later:=[]) (ops:=D.tick.ops) (arm:=D.tick.arm) wI (nB _ _).symm rfl A3;rw[gW] at h5;exact h5
end
def Ro(W:World)(b:OA)(n e:Nat)(xs:LV):Prop:=
 xs.length=n* e/\(b=none->n=0)/\∀a,b=some a->∀j v,xs[j]?=some v->W.cell? (a.add j)=some v
def add_add(a:Addr)(m n:Nat):(a.add m).add n=a.add (m+n):=by
 unfold Addr.add;by_cases h1:m=0
 ·subst h1;simp
 ·by_cases h2:n=0
  ·subst h2;simp[h1]
  ·rw[ah h1,ah h2,ah (by omega)];simp;omega
section
variable {W w:World} {L:LH} {b:OA} {n e:Nat} {xs:LV}
def Ba{W:World}{a:Addr}{v:Value}(h:W.cell? a=some v):a.block<W.heap.size:=by
 unfold World.cell? at h;cases hb:W.heap[a.block]? with
 |none=>simp[hb] at h
 |some x=>exact(Array.getElem?_eq_some_iff.1 hb).1
def St.old(h:St W w L){a:Addr}(ha:a.block<W.heap.size):w.cell? a=W.cell? a:=h.1.cell ha
def Ro.cell(hr:Ro W b n e xs){a:Addr}(hb:b=some a)(h:St W w L){j:Nat}{v:Value}(hv:xs[j]?=some v):w.cell? (a.add j)=some v:=by
 have h2:=hr.2.2 a hb j v hv;rw[h.old (Ba h2)];exact h2
end
def q9(x y:BA):me x y=decide (x=y):=by
 unfold me;by_cases h:x=y
 ·subst h;simp
 ·have:x.toList≠y.toList:=by
   rw[ByteArray.toList_eq,ByteArray.toList_eq];intro he;exact h (ByteArray.ext (rv he))
  simp[h,this]
end Go.Sep
namespace Go.Prog
def Tz:Nat:=226
def VA:Nat:=5
end Go.Prog
namespace Go.Prog
open Go.Den Go.RowKit
def TY(B b:Nat)(l:List UInt8)(w:World):Prop:=Go.Lib.IsBuilder Tz VA B b (Go.Lib.byteCells l) w
def fy(p:OA)(s:BA)(K:VK):WK:=λw=>∃B b l,p=ai b/\TY B b l w/\l.length+s.size<=140737488355328/\B<=w.heap.size/\
 ∀w',TY B b (l++s.data.toList) w'->Below B w w'->K (.tuple ⟨[.i s.size,.nilIface]⟩) w'
def fy.u:WP:=λargs K=>match args with|[.pointer p,.string s]=>fy p s K|_=>no
def gP(p:OA)(K:VK):WK:=λw=>∃B b l,p=ai b/\TY B b l w/\B<=w.heap.size/\∀w',Below B w w'->K (.s ⟨l.toArray⟩) w'
def gP.u:WP:=λargs K=>match args with|[.pointer p]=>gP p K|_=>no
end Go.Prog
namespace Go.Prog
open Go.Den
abbrev ad(r o:Nat):Addr:=⟨r,o,none⟩
def ov(x y c:Int)(K:VK):WK:=aY ((0<=x/\0<=y)/\0<=c/\c<=1) (K (.tuple ⟨[.u ((x+y+c)%18446744073709551616),.u ((x+y+c)/18446744073709551616)]⟩))
def ov.u:WP:=λargs K=>match args with|[.int .u64 x,.int .u64 y,.int .u64 c]=>ov x y c K|_=>no
def ou(x y c:Int)(K:VK):WK:=aY ((0<=x/\0<=y/\y<18446744073709551616)/\0<=c/\c<=1) (K (.tuple ⟨[.u ((x-y-c)%18446744073709551616),.u (if x<y+c then 1 else 0)]⟩))
def ou.u:WP:=λargs K=>match args with|[.int .u64 x,.int .u64 y,.int .u64 c]=>ou x y c K|_=>no
end Go.Prog
namespace Go.Up
open Go.Sep Go.Den Go.RowKit Go.Prog
def T(W:World)(L:LH)(X:WK):Prop:=∀w,St W w L->X w
class Lc{α:Type}(P:α->HP)(L:LH)(x:outParam α)(f:outParam (α->LH)):Prop where
 at_:∃k:Nat,L[k]?=some (P x)/\∀y,f y=L.set k (P y)
instance Lc.head{α:Type}{P:α->HP}{x:α}{L:LH}:Lc P (P x::L) x (λy=>P y::L):=⟨0,rfl,λ_=>rfl⟩
instance Lc.tail{α:Type}{P:α->HP}{A:HP}{x:α}{L:LH}{f:α->LH}[h:Lc P L x f]:Lc P (A::L) x (λy=>A::f y):=by
 obtain⟨k,h1,h2⟩:=h.at_;exact⟨k+1,h1,λy=>by rw[h2];rfl⟩
def Lc.same{α:Type}{P:α->HP}{L:LH}{x:α}{f:α->LH}(h:Lc P L x f):f x=L:=by
 obtain⟨k,h1,h2⟩:=h.at_;rw[h2];exact kr h1
theorem Lc.next{α:Type}{P:α->HP}{L:LH}{x:α}{f:α->LH}(h:Lc P L x f)(y:α):Lc P (f y) y f:=by
 obtain⟨k,h1,h2⟩:=h.at_;exact⟨k,by rw[h2];exact gR h1,λz=>by rw[h2,h2,gW]⟩
class Sub(cs:LV)(o n:Nat)(xs:outParam (LV)):Prop where
 is:xs.length=n/\∀j v,xs[j]?=some v->cs[o+j]?=some v
class Wr(cs:LV)(o:Nat)(xs:LV)(ds:outParam (LV)):Prop where
 is:over cs o xs=ds/\o+xs.length<=cs.length/\∀v∈xs,v.oneCell'=true
class One(v:Value):Prop where
 is:v.oneCell'=true
instance{k:IntKind}{n:Int}:One (.int k n):=⟨rfl⟩
instance{b:OA}{n c:Nat}:One (.l b n c):=⟨rfl⟩
instance Wr.head{a v:Value}{cs:LV}[h:One v]:Wr (a::cs) 0 [v] (v::cs):=⟨by simp[over],by simp,λu hu=>by simp at hu;rw[hu];exact h.is⟩
instance Wr.tail{a v:Value}{cs ds:LV}{o:Nat}[h:Wr cs o [v] ds]:Wr (a::cs) (o+1) [v] (a::ds):=by
 obtain⟨h1,h2,h3⟩:=h.is;refine⟨?_,by simp at h2⊢;omega,h3⟩;rw[<-h1];simp only[over,Hy,List.take_succ_cons,fE,Nat.add_right_comm o 1 1,List.drop_succ_cons]
section
variable {W:World} {L M:LH} {X Y:WK}
def T.at{w:World}(h:T W L X)(hs:St W w L):X w:=h w hs
def T.drop{A:HP}(h:T W L X):T W (A::L) X:=λw hs=>h w hs.drop
def T.perm(h:T W L X)(p:M.Perm L):T W M X:=λw hs=>h w (hs.perm p)
def T.fin{K:VK}{v v':Value}(h:T W L (K v))(e:v'=v):T W L (K v'):=e▸h
def T.under{A:HP}(h:T W L X->T W M Y)(hx:T W L X):T W M Y:=h hx
def jy{cs:LV}{F:Nat->WK}(h:∀r,T W (pt r cs::L) (F r)):T W L (mk cs F):=λw hs=>gh hs λr w' h'=>h r w' h'
def En(h:T W L X):T W L (tick X):=λw hs=>km hs λw' h'=>h w' h'
def dv{p:Prop}(hp:p)(h:T W L X):T W L (aY p X):=λw hs=>⟨hp,h w hs⟩
def NY(h:T W L X):T W L (aY True X):=dv trivial h
def VI{a b:Nat}(e:a=b)(h:T W L X):T W L (aY (a=b) X):=dv e h
def VJ{a b:Nat}{q:Prop}(e:a=b)(h:T W L (aY q X)):T W L (aY (a=b/\q) X):=λw hs=>⟨⟨e,(h w hs).1⟩,(h w hs).2⟩
def dz{b:Bool}(h1:b=true->T W L X)(h2:b=false->T W L Y):T W L (br b X Y):=λw hs=>qS (λe=>h1 e w hs) (λe=>h2 e w hs)
def hG{b:Bool}(e:b=true)(h:T W L X):T W L (br b X Y):=by subst e;exact h
def cW{b:Bool}(e:b=false)(h:T W L Y):T W L (br b X Y):=by subst e;exact h
def ib(h:T W L X):T W L (br true X Y):=h
def fG(h:T W L Y):T W L (br false X Y):=h
def Es(h:T W L Y):T W L (br (!true) X Y):=h
def VN(h:T W L X):T W L (br (!false) X Y):=h
def vh{α:Type}{a:α}(h:T W L Y):T W L (br (Option.isNone (some a)) X Y):=h
def VM{α:Type}{a:α}(h:T W L X):T W L (br (!(Option.isNone (some a))) X Y):=h
def K2{a:Addr}{K:Addr->WK}(h:T W L (K a)):T W L (nn (some a) K):=h
def ze(h1:T W L X)(h2:T W L Y):T W L (both X Y):=λw hs=>⟨h1 w hs,h2 w hs⟩
def oU{k:IntKind}{K:Int->WK}{n:Int}(h:T W L (K n)):T W L (xI k K (.int k n)):=λw hs=>by rw[Ts];exact h w hs
def mO{K:Bool->WK}{n:Bool}(h:T W L (K n)):T W L (xB K (.b n)):=λw hs=>by rw[Nv];exact h w hs
def xQ{K:BA->WK}{n:BA}(h:T W L (K n)):T W L (xS K (.s n)):=λw hs=>by rw[Nu];exact h w hs
def vd{K:OA->WK}{n:OA}(h:T W L (K n)):T W L (xP K (.p n)):=λw hs=>by rw[Tq];exact h w hs
def wE{K:OA->Nat->Nat->WK}{b:OA}{n c:Nat}(h:T W L (K b n c)):T W L (xL K (.l b n c)):=λw hs=>by rw[Tr];exact h w hs
def FQ{n:Nat}{K:LV->WK}{cs:LV}(hn:cs.length=n)(h:T W L (K cs)):T W L (xA n K (.agg ⟨cs⟩)):=λw hs=>by rw[uM];exact⟨hn,h w hs⟩
def za(h:T W L X):T W L (x0 X (.tuple ⟨[]⟩)):=λw hs=>by rw[Tx];exact h w hs
def acf{K:Value->Value->WK}{a b:Value}(h:T W L (K a b)):T W L (x2 K (.tuple ⟨[a,b]⟩)):=λw hs=>by rw[Tu];exact h w hs
def ace{K:Value->Value->Value->WK}{a b c:Value}(h:T W L (K a b c)):T W L (x3 K (.tuple ⟨[a,b,c]⟩)):=λw hs=>by rw[Tt];exact h w hs
variable {r o n:Nat} {cs xs ds:LV} {f:LV->LH} {v:Value}
def ma{K:VK}[i:Lc (pt r) L cs f](hv:cs[o]?=some v)(h:T W L (K v)):T W L (ld ⟨r,o,none⟩ K):=λw hs=>
 let⟨_,hk,_⟩:=i.at_;cy hs hk hv (h w hs)
def YI{K:LV->WK}[i:Lc (pt r) L cs f][s:Sub cs o n xs](h:T W L (K xs)):T W L (aD ⟨r,o,none⟩ n K):=λw hs=>
 let⟨_,hk,_⟩:=i.at_;gU hs hk s.is.1 s.is.2 (h w hs)
def acg[i:Lc (pt r) L cs f][s:Wr cs o [v] ds](h:T W (f ds) X):T W L (st ⟨r,o,none⟩ v X):=λw hs=>by
 obtain⟨k,hk,e⟩:=i.at_;obtain⟨s1,s2,s3⟩:=s.is;refine mV hs hk (by have:=s2;simp at this;omega) (s3 v (by simp)) λw' h'=>h w' ?_;rw[e,<-s1];have:over cs o [v]=cs.set o v:=by
  apply jq;intro j;rw[yt s2,cA];simp only[bw,dH] at s2⊢;by_cases h1:j<o
  ·rw[aj h1,ah (by omega)]
  ·by_cases h2:o=j
   ·subst h2;rw[ah h1,aj (by omega),aj rfl,aj (by omega)];simp
   ·rw[ah h1,ah (by omega),ah h2]
 rw[this];exact h'
def YH[i:Lc (pt r) L cs f][s:Wr cs o xs ds](h:T W (f ds) X):T W L (fH ⟨r,o,none⟩ xs X):=λw hs=>by
 obtain⟨k,hk,e⟩:=i.at_;obtain⟨s1,s2,s3⟩:=s.is;refine ic hs hk s2 s3 λw' h'=>h w' ?_;rw[e,<-s1];exact h'
def VE{k:Nat}{K:VK}(h:T W L (ld ⟨r,k,none⟩ K)):T W L (ld (Addr.add ⟨r,0,none⟩ k) K):=by rw[dh,az];exact h
def YK{k:Nat}{K:VK}(h:T W L (ld ⟨r,o+k,none⟩ K)):T W L (ld (Addr.add ⟨r,o,none⟩ k) K):=by rw[dh];exact h
def Q6{k:Nat}{K:LV->WK}(h:T W L (aD ⟨r,k,none⟩ n K)):T W L (aD (Addr.add ⟨r,0,none⟩ k) n K):=by rw[dh,az];exact h
def VC{k:Nat}(h:T W L (st ⟨r,k,none⟩ v X)):T W L (st (Addr.add ⟨r,0,none⟩ k) v X):=by rw[dh,az];exact h
def VH{k:Nat}(h:T W L (kp ⟨r,k,none⟩ xs X)):T W L (kp (Addr.add ⟨r,0,none⟩ k) xs X):=by rw[dh,az];exact h
def vg[i:Lc (pt r) L cs f](hv:cs[o]?=some v)(h:T W L X):T W L (kp ⟨r,o,none⟩ [v] X):=λw hs=>
 let⟨_,hk,_⟩:=i.at_;ig hs hk hv (h w hs)
def Q7[i:Lc (pt r) L cs f][s:Sub cs o n xs](h:T W L X):T W L (kp ⟨r,o,none⟩ xs X):=λw hs=>
 let⟨_,hk,_⟩:=i.at_;Kk hs hk s.is.2 (h w hs)
def JH{a:Addr}{K:LV->WK}(hg:xs.length=n/\∀j v,xs[j]?=some v->W.cell? (a.add j)=some v)(h:T W L (K xs)):T W L (aD a n K):=λw hs=>
 ⟨xs,hg.1,λj v hj=>by
  have:=hg.2 j v hj
  rw[hs.old (Ba this)];exact this,h w hs⟩
def NV{zs ys:LV}{K:Bool->WK}(h1:lJ zs xs=true)(h2:lJ zs ys=true)(h:T W L (K (gG xs ys))):T W L (lK zs xs ys K):=λw hs=>⟨⟨h1,h2⟩,h w hs⟩
end
def nm(n:Nat):LV:=[.u ((n/18446744073709551616:Nat):Int),.u ((n%18446744073709551616:Nat):Int)]
instance{n:Nat}:Sub (nm n) 0 2 (nm n):=⟨rfl,λj v h=>by rw[az];exact h⟩
instance{cs:LV}{a b:Value}:Sub (a::b::cs) 0 2 [a,b]:=⟨rfl,λj v h=>by
 rw[az]
 match j with
 |0=>exact h
 |1=>exact h
 |j+2=>simp at h⟩
def Pz(a b:Nat):gG (nm a) (nm b)=decide (a=b):=by
 simp only[nm,gG,zL,Bool.and_true];by_cases h:a=b
 ·subst h;simp
 ·rw[ay h,Bool.and_eq_false_iff];by_cases h1:a/18446744073709551616=b/18446744073709551616
  ·right
   have: ¬((a%18446744073709551616:Nat):Int)=((b%18446744073709551616:Nat):Int):=by omega
   simpa using this
  ·left
   have: ¬((a/18446744073709551616:Nat):Int)=((b/18446744073709551616:Nat):Int):=by omega
   simpa using this
def TC{W:World}{L:LH}{a b:Nat}{K:Bool->WK}(h:T W L (K (decide (a=b)))):T W L (lK [.u 0,.u 0] (nm a) (nm b) K):=NV rfl rfl (by rw[Pz];exact h)
def YM{W:World}{L:LH}{X:WK}{r o m:Nat}{cs:LV}{f:LV->LH}[i:Lc (pt r) L cs f][s:Sub cs o 2 (nm m)](h:T W L X):T W L (kp ⟨r,o,none⟩ (nm m) X):=Q7 (n:=2) h
def YO{W:World}{L:LH}{a:Nat}{K:Bool->WK}(h:T W L (K (decide (a=0)))):T W L (lK [.u 0,.u 0] (nm a) [.u 0,.u 0] K):=TC (b:=0) h
class Wk(L:LH)(X:WK)(L':outParam (LH))(Y:outParam WK):Prop where
 go:∀W,T W L' Y->T W L X
class YB(a b:Nat):Prop where
 is:a=b
instance{a:Nat}:YB a a:=⟨rfl⟩
class Eqv(a b:Value):Prop where
 is:a=b
instance{a:Value}:Eqv a a:=⟨rfl⟩
class Ln(cs:LV)(n:outParam Nat):Prop where
 is:cs.length=n
instance:Ln [] 0:=⟨rfl⟩
instance{a:Value}{l:LV}{n:Nat}[h:Ln l n]:Ln (a::l) (n+1):=⟨by rw[bw,h.is]⟩
instance{a b:LV}{n m:Nat}[h:Ln a n][g:Ln b m]:Ln (a++b) (n+m):=⟨by rw[ak,h.is,g.is]⟩
instance{cs:LV}{k n:Nat}[h:Ln cs k][e:YB k n]:YB cs.length n:=⟨by rw[h.is,e.is]⟩
instance{n:Nat}:Ln (nm n) 2:=⟨rfl⟩
section
variable {L:LH} {X Y:WK} {r o n:Nat} {cs xs ds:LV} {f:LV->LH} {v:Value}
instance{k:IntKind}{K:Int->WK}{n:Int}:Wk L (xI k K (.int k n)) L (K n):=⟨λ_ h=>oU h⟩
instance{K:Bool->WK}{n:Bool}:Wk L (xB K (.b n)) L (K n):=⟨λ_ h=>mO h⟩
instance{K:BA->WK}{n:BA}:Wk L (xS K (.s n)) L (K n):=⟨λ_ h=>xQ h⟩
instance{K:OA->WK}{n:OA}:Wk L (xP K (.p n)) L (K n):=⟨λ_ h=>vd h⟩
instance{K:OA->Nat->Nat->WK}{b:OA}{n c:Nat}:Wk L (xL K (.l b n c)) L (K b n c):=⟨λ_ h=>wE h⟩
instance:Wk L (x0 X (.tuple ⟨[]⟩)) L X:=⟨λ_ h=>za h⟩
instance{K:Value->Value->WK}{a b:Value}:Wk L (x2 K (.tuple ⟨[a,b]⟩)) L (K a b):=⟨λ_ h=>acf h⟩
instance{K:Value->Value->Value->WK}{a b c:Value}:Wk L (x3 K (.tuple ⟨[a,b,c]⟩)) L (K a b c):=⟨λ_ h=>ace h⟩
instance:Wk L (aY True X) L X:=⟨λ_ h=>NY h⟩
instance{a b:Nat}[i:YB a b]:Wk L (aY (a=b) X) L X:=⟨λ_ h=>VI i.is h⟩
instance{a b:Nat}{q:Prop}[i:YB a b]:Wk L (aY (a=b/\q) X) L (aY q X):=⟨λ_ h=>VJ i.is h⟩
instance:Wk L (br true X Y) L X:=⟨λ_ h=>h⟩
instance:Wk L (br false X Y) L Y:=⟨λ_ h=>h⟩
instance:Wk L (br (!true) X Y) L Y:=⟨λ_ h=>h⟩
instance:Wk L (br (!false) X Y) L X:=⟨λ_ h=>h⟩
instance{α:Type}{a:α}:Wk L (br (Option.isNone (some a)) X Y) L Y:=⟨λ_ h=>h⟩
instance{α:Type}{a:α}:Wk L (br (!(Option.isNone (some a))) X Y) L X:=⟨λ_ h=>h⟩
instance{a:Addr}{K:Addr->WK}:Wk L (nn (some a) K) L (K a):=⟨λ_ h=>h⟩
instance:Wk L (tick X) L X:=⟨λ_ h=>En h⟩
instance{k:Nat}{K:VK}:Wk L (ld (Addr.add ⟨r,0,none⟩ k) K) L (ld ⟨r,k,none⟩ K):=⟨λ_ h=>VE h⟩
instance{k:Nat}{K:LV->WK}:Wk L (aD (Addr.add ⟨r,0,none⟩ k) n K) L (aD ⟨r,k,none⟩ n K):=⟨λ_ h=>Q6 h⟩
instance{k:Nat}:Wk L (st (Addr.add ⟨r,0,none⟩ k) v X) L (st ⟨r,k,none⟩ v X):=⟨λ_ h=>VC h⟩
instance{k:Nat}:Wk L (kp (Addr.add ⟨r,0,none⟩ k) xs X) L (kp ⟨r,k,none⟩ xs X):=⟨λ_ h=>VH h⟩
instance{K:LV->WK}[i:Lc (pt r) L cs f][s:Sub cs o n xs]:Wk L (aD ⟨r,o,none⟩ n K) L (K xs):=⟨λ_ h=>YI h⟩
instance[i:Lc (pt r) L cs f][s:Wr cs o [v] ds]:Wk L (st ⟨r,o,none⟩ v X) (f ds) X:=⟨λ_ h=>acg h⟩
instance[i:Lc (pt r) L cs f][s:Wr cs o xs ds]:Wk L (fH ⟨r,o,none⟩ xs X) (f ds) X:=⟨λ_ h=>YH h⟩
instance{m:Nat}[i:Lc (pt r) L cs f][s:Sub cs o 2 (nm m)]:Wk L (kp ⟨r,o,none⟩ (nm m) X) L X:=⟨λ_ h=>YM h⟩
instance{a b:Nat}{K:Bool->WK}:Wk L (lK [.u 0,.u 0] (nm a) (nm b) K) L (K (decide (a=b))):=⟨λ_ h=>TC h⟩
instance{a:Nat}{K:Bool->WK}:Wk L (lK [.u 0,.u 0] (nm a) [.u 0,.u 0] K) L (K (decide (a=0))):=⟨λ_ h=>YO h⟩
end
class Gt(cs:LV)(o:Nat)(v:outParam Value):Prop where
 is:cs[o]?=some v
instance{a:Value}{l:LV}:Gt (a::l) 0 a:=⟨rfl⟩
instance{a v:Value}{l:LV}{o:Nat}[h:Gt l o v]:Gt (a::l) (o+1) v:=⟨by rw[aW];exact h.is⟩
instance{n:Nat}:Gt (nm n) 0 (.u (n/18446744073709551616:Nat)):=⟨rfl⟩
instance{n:Nat}:Gt (nm n) 1 (.u (n%18446744073709551616:Nat)):=⟨rfl⟩
class Lv(L:LH)(r o:Nat)(v:outParam Value):Prop where
 ld:∀{W:World} {K:VK},T W L (K v)->T W L (ld ⟨r,o,none⟩ K)
 kp:∀{W:World} {X:WK},T W L X->T W L (kp ⟨r,o,none⟩ [v] X)
instance{L:LH}{r o:Nat}{v:Value}{cs:LV}{f:LV->LH}[i:Lc (pt r) L cs f][g:Gt cs o v]:Lv L r o v:=⟨λh=>ma (i:=i) g.is h,λh=>vg (i:=i) g.is h⟩
section
variable {L:LH} {X A B:WK} {r o n:Nat} {v:Value} {K:VK} {cs:LV}
instance[i:Lv L r o v]:Wk L (ld ⟨r,o,none⟩ K) L (K v):=⟨λ_ h=>i.ld h⟩
instance{u:Value}[i:Lv L r o u][e:Eqv u v]:Wk L (kp ⟨r,o,none⟩ [v] X) L X:=⟨λ_ h=>by rw[<-e.is];exact i.kp h⟩
instance{K:LV->WK}{k:Nat}[h:Ln cs k][e:YB k n]:Wk L (xA n K (.agg ⟨cs⟩)) L (K cs):=⟨λ_ g=>FQ (by rw[h.is,e.is]) g⟩
end
class Wb(X:WK)(A B:outParam WK):Prop where
 is:X=both A B
instance{A B:WK}:Wb (both A B) A B:=⟨rfl⟩
def wb{W:World}{L:LH}{X A B:WK}[i:Wb X A B](h:T W L A)(g:T W L B):T W L X:=by rw[i.is];exact ze h g
class Ws(L:LH)(X:WK)(Q:outParam (World->Prop)):Prop where
 go:∀W,Q W->T W L X
class Wp(L:LH)(X:WK)(Q:outParam (World->Prop)):Prop where
 go:∀W,Q W->T W L X
section
variable {L L':LH} {X Y:WK} {Q:World->Prop}
instance(priority:=low):Ws L X (λW=>T W L X):=⟨λ_ h=>h⟩
instance[j:Wp L X Q]:Ws L X Q:=⟨j.go⟩
instance[i:Wk L X L' Y][j:Ws L' Y Q]:Wp L X Q:=⟨λW h=>i.go W (j.go W h)⟩
instance{cs:LV}{F:Nat->WK}{Q:Nat->World->Prop}[j:∀r,Ws (pt r cs::L) (F r) (Q r)]:Wp L (mk cs F) (λW=>∀r,Q r W):=⟨λW h=>jy λr=>(j r).go W (h r)⟩
def ws{W:World}[i:Wp L X Q](h:Q W):T W L X:=i.go W h
def gO{W:World}{p:Prop}[Decidable p](h1:p->T W L X)(h2: ¬p->T W L Y):T W L (br (decide p) X Y):=dz (λh=>h1 (bG h)) (λh=>h2 (cD h))
end
class Has(R L:LH):Prop where
 sub:∀{W w:World},St W w L->St W w R
instance Has.refl{R:LH}:Has R R:=⟨λh=>h⟩
instance(priority:=low) Has.tail{R L:LH}{A:HP}[h:Has R L]:Has R (A::L):=⟨λhs=>h.sub hs.drop⟩
instance{R L:LH}[h:Has R L]:Has ([]++R) L:=⟨λhs=>h.sub hs⟩
def T.dp{W:World}{M L:LH}{X:WK}[i:Has M L](h:T W M X):T W L X:=λw hs=>h w (i.sub hs)
end Go.Up
namespace Go.Prog
open Go.Den
def ko(s1:BA)(K:VK):WK:=
mk Ns λr1=>
(lp [.p (some (ad r1 0)),.b false,.i 0] λI1 pz=>
∀a1 b1 n1 w2,I1 [.p (some a1),.b b1,.i n1] w2->(
br (decide (n1<(s1.size:Int))) (
ss s1 n1 λc1=>
br (decide ((c1.toNat:Int)>=128)) (
aD a1 256 λpA=>
aT 256 a1 pA (
aD a1 256 λuE=>
K (.tuple ⟨[.agg ⟨uE⟩,.b false]⟩))) (
aY ((0:Int)<=(c1.toNat:Int)/\(c1.toNat:Int)<256) (
st (a1.add ((c1.toNat:Int).toNat* 1)) (.b true) (
(ct I1 pz [.p (some a1),.b b1,.i (ag.wrap (n1+1))] [.p (some a1),.b b1,.i n1] w2))))) (
aD a1 256 λsR=>
aT 256 a1 sR (
aD a1 256 λqL=>
K (.tuple ⟨[.agg ⟨qL⟩,.b true]⟩)))) w2)
def fQ(p1:OA)(n1:Int)(K:VK):WK:=
nn p1 λa1=>
aY ((0:Int)<=n1/\n1<256) (
lT (a1.add (n1.toNat* 1)) λb1=>
K (.b b1))
def jU(s1:BA)(p1:OA)(K:VK):WK:=
(lp [.s s1,.s .empty] λI1 pz=>
∀s2 s3 w2,I1 [.s s2,.s s3] w2->(
br (decide ((s2.size:Int)>0)) (
ss s2 0 λc1=>
fQ p1 (c1.toNat:Int) (xB λb1=>
br (!b1) (
K (.s s2)) (
iW s2 (some 1) none λs4=>
(ct I1 pz [.s s4,.s s3] [.s s2,.s s3] w2)))) (
K (.s s2))) w2)
def jf(s1:BA)(p1:OA)(K:VK):WK:=
(lp [.s s1,.s .empty] λI1 pz=>
∀s2 s3 w2,I1 [.s s2,.s s3] w2->(
br (decide ((s2.size:Int)>0)) (
ss s2 (ag.wrap ((s2.size:Int) -1)) λc1=>
fQ p1 (c1.toNat:Int) (xB λb1=>
br (!b1) (
K (.s s2)) (
iW s2 none (some (ag.wrap ((s2.size:Int) -1))) λs4=>
(ct I1 pz [.s s4,.s s3] [.s s2,.s s3] w2)))) (
K (.s s2))) w2)
def q6(a:BA)(K:VK):WK:=tick (br (decide ((ag.wrap ((a.size:Int) -4))>=0)) (iW a none (some (ag.wrap ((a.size:Int) -4))) λc=>iW a (some (ag.wrap ((a.size:Int) -4))) none λd=>rT 0 c (xI .u32 λe=>pk e (xS λf=>K (.b (me f d))))) (K (.b false)))
def kn(h:BA)(i:Int)(K:VK):WK:=(λj=>∃(c:LV->World->Prop)(e:LV->World->Nat),c [.s h,.s .empty] j/\∀(a:BA)(b:BA)(d:World),c [.s a,.s b] d->(br (decide ((a.size:Int)>0)) (ss a 0 λk=>br ((k.toNat:Int)==i) (iW a (some 1) none λf=>(λg=>c [.s f,.s b] g/\e [.s f,.s b] g<e [.s a,.s b] d)) (K (.s a))) (K (.s a))) d)
def jS(h:BA)(i:Int)(K:VK):WK:=(λj=>∃(c:LV->World->Prop)(e:LV->World->Nat),c [.s h,.s .empty] j/\∀(a:BA)(b:BA)(d:World),c [.s a,.s b] d->(br (decide ((a.size:Int)>0)) (ss a (ag.wrap ((a.size:Int) -1)) λk=>br ((k.toNat:Int)==i) (iW a none (some (ag.wrap ((a.size:Int) -1))) λf=>(λg=>c [.s f,.s b] g/\e [.s f,.s b] g<e [.s a,.s b] d)) (K (.s a))) (K (.s a))) d)
def cI.j2(K:VK)(c d:BA):WK:=ko c (x2 λe f=>(xA 256 λb=>(xB λg=>mk Ns λa=>aY (b.length=256) (fH (⟨a,0,none⟩:Addr) b (br g (jf d (some (⟨a,0,none⟩:Addr)) (xS λh=>jU h (some (⟨a,0,none⟩:Addr)) (xS λi=>K (.s i)))) (no)))) f) e)
def cI.j3(K:VK)(a b:BA)(c:Bool):WK:=br c (tick (ss a 0 λd=>ss a 0 λe=>jS b (d.toNat:Int) (xS λf=>kn f (e.toNat:Int) (xS λg=>K (.s g))))) (cI.j2 K a b)
def cI.j1(K:VK)(b a:BA)(c:Bool):WK:=br c (K (.s b)) (br ((a.size:Int)==1) (ss a 0 λd=>cI.j3 K a b (decide ((d.toNat:Int)<128))) (cI.j3 K a b false))
def cI(a b:BA)(K:VK):WK:=br (me a (⟨#[]⟩:BA)) (cI.j1 K a b true) (cI.j1 K a b (me b (⟨#[]⟩:BA)))
def iP.j1(K:VK)(a:Nat)(h:BA)(j:Bool):WK:=br j (aY True (aY (3=3) (fH (⟨a,0,none⟩:Addr) [.i 0,.i 0,.s .empty] (aD (⟨a,0,none⟩:Addr) 3 λk=>K (.tuple ⟨[.agg ⟨k⟩,.b false]⟩))))) (kY h (xP λd=>aF d 8 (xI .i64 λl=>aF d 2 (xI .i64 λm=>aY (1=1/\(1=1/\True)) (mk [.i 0,.i 0,.s .empty] λc=>aY (3=3) (fH (⟨c,0,none⟩:Addr) [.i l,.i m,.s .empty] (aF d 2 (xI .i64 λf=>br (decide (f>104)) (aY True (aY (3=3) (fH (⟨a,0,none⟩:Addr) [.i 0,.i 0,.s .empty] (aD (⟨a,0,none⟩:Addr) 3 λn=>K (.tuple ⟨[.agg ⟨n⟩,.b false]⟩))))) (dy d f (xS λo=>st ((⟨c,0,none⟩:Addr).add 2) (.s o) (dy d (ag.wrap (104-f)) (xS λp=>dy d 4 (xS λz=>tick (ld ((⟨c,0,none⟩:Addr).add 0) (xI .i64 λe=>aF d 8 (xI .i64 λq=>kp ((⟨c,0,none⟩:Addr).add 0) [.i e] (br (q !=e) (aY True (aY (3=3) (fH (⟨a,0,none⟩:Addr) [.i 0,.i 0,.s .empty] (aD (⟨a,0,none⟩:Addr) 3 λr=>K (.tuple ⟨[.agg ⟨r⟩,.b false]⟩))))) (cI p (⟨#[0]⟩:BA) (xS λt=>kp ((⟨c,0,none⟩:Addr).add 0) [.i e] (br (!(me t (⟨#[]⟩:BA))) (aY True (aY (3=3) (fH (⟨a,0,none⟩:Addr) [.i 0,.i 0,.s .empty] (aD (⟨a,0,none⟩:Addr) 3 λu=>K (.tuple ⟨[.agg ⟨u⟩,.b false]⟩))))) (aD (⟨c,0,none⟩:Addr) 3 λv=>rE v (xB λw=>kp ((⟨c,0,none⟩:Addr).add 0) [.i e] (br (!w) (aY True (aY (3=3) (fH (⟨a,0,none⟩:Addr) [.i 0,.i 0,.s .empty] (aD (⟨a,0,none⟩:Addr) 3 λx=>K (.tuple ⟨[.agg ⟨x⟩,.b false]⟩))))) (aD (⟨c,0,none⟩:Addr) 3 λg=>aY (g.length=3) (fH (⟨a,0,none⟩:Addr) g (aD (⟨a,0,none⟩:Addr) 3 λy=>K (.tuple ⟨[.agg ⟨y⟩,.b true]⟩)))))))))))))))))))))))))))
def iP(a:BA)(K:VK):WK:=mk [.i 0,.i 0,.s .empty] λb=>br ((a.size:Int)!=128) (iP.j1 K b a true) (iW a none (some 120) λc=>q6 c (xB λd=>iP.j1 K b a (!d)))
def fU.j1(K:VK)(k:Int)(q:OA)(r t:Int)(u:Bool):WK:=br u (K (.tuple ⟨[.s .empty,.b false]⟩)) (Zc Tz [.p none,.l none 0 0] λv=>jt k (xI .i64 λw=>(λx=>∃(h:LV->World->Prop)(m:LV->World->Nat),h [.s .empty,.b false,.p (some (⟨v,0,none⟩:Addr)),.i w,.i 0] x/\∀(f:BA)(g:Bool)(c:Addr)(d:Int)(a:Int)(j:World),h [.s f,.b g,.p (some c),.i d,.i a] j->(br (decide (a<d)) (gS q (ag.wrap (r+a)) (x2 λy z=>(xS λA=>(xI .i64 λO=>iP A (x2 λB C=>(xA 3 λn=>(xB λD=>mk [.i 0,.i 0,.s .empty] λe=>aY (n.length=3) (fH (⟨e,0,none⟩:Addr) n (br (!D) (K (.tuple ⟨[.s .empty,.b false]⟩)) (ld ((⟨e,0,none⟩:Addr).add 0) (xI .i64 λE=>br (E !=t) (K (.tuple ⟨[.s .empty,.b false]⟩)) (ld ((⟨e,0,none⟩:Addr).add 1) (xI .i64 λF=>br (F !=a) (K (.tuple ⟨[.s .empty,.b false]⟩)) (ld ((⟨e,0,none⟩:Addr).add 2) (xS λG=>br ((G.size:Int)!=(min2 (ag.wrap (k-(ag.wrap (a* 104)))) 104)) (K (.tuple ⟨[.s .empty,.b false]⟩)) (ld ((⟨e,0,none⟩:Addr).add 2) (xS λH=>fy (some c) H (x2 λI J=>(xI .i64 λP=>(λQ=>(λo=>h [.s f,.b g,.p (some c),.i d,.i (ag.wrap (a+1))] o/\m [.s f,.b g,.p (some c),.i d,.i (ag.wrap (a+1))] o<m [.s f,.b g,.p (some c),.i d,.i a] j)) J) I)))))))))))) C) B)) z) y)) (gP (some c) (xS λM=>K (.tuple ⟨[.s M,.b true]⟩)))) j)))
def fU(c:OA)(a e d b:Int)(K:VK):WK:=br (decide (a<0)) (fU.j1 K b c a d true) (dL c (xI .i64 λf=>br (decide (e>f)) (fU.j1 K b c a d true) (br (decide (a>e)) (fU.j1 K b c a d true) (br (decide (b<0)) (fU.j1 K b c a d true) (br (decide (b>425984)) (fU.j1 K b c a d true) (jt b (xI .i64 λg=>fU.j1 K b c a d (decide (g>(ag.wrap (e-a)))))))))))
def bl(l m:Int)(K:VK):WK:=(λn=>∃(f:LV->World->Prop)(j:LV->World->Nat),f [.s .empty,.i (min2 (max2 l 1) 8),.u (IntKind.u64.wrap m),.s .empty,.i 0] n/\∀(e:BA)(b:Int)(c:Int)(a:BA)(d:Int)(g:World),f [.s e,.i b,.u c,.s a,.i d] g->(br (decide (d<b)) (aY ((256:Int)≠0) (aY (1=1/\True) (mk [.int .u8 (IntKind.u8.wrap (c.tmod (256:Int)))] λo=>Np (ai o) 1 λh=>aY (((a.size+h.size:Nat):Int)<=9223372036854775807) (aY ((256:Int)≠0) ((λk=>f [.s e,.i b,.u (IntKind.u64.wrap (c.tdiv (256:Int))),.s (a++h),.i (ag.wrap (d+1))] k/\j [.s e,.i b,.u (IntKind.u64.wrap (c.tdiv (256:Int))),.s (a++h),.i (ag.wrap (d+1))] k<j [.s e,.i b,.u c,.s a,.i d] g)))))) (K (.s a))) g)
def qU.j1(K:VK)(a:Nat)(b:Int)(c:Bool):WK:=br c (aY True (aY (5=5) (fH (⟨a,0,none⟩:Addr) [.i 0,.i 0,.i 0,.i 0,.i 0] (aD (⟨a,0,none⟩:Addr) 5 λd=>K (.tuple ⟨[.agg ⟨d⟩,.i 1]⟩))))) (aY ((5:Int)≠0) (aY (1=1/\(1=1/\(1=1/\(1=1/\(1=1/\True))))) (aY (5=5) (fH (⟨a,0,none⟩:Addr) [.i 2,.i (ag.wrap (2+(ag.wrap ((ag.wrap ((ag.wrap (b-2))* 2)).tdiv (5:Int))))),.i (ag.wrap ((ag.wrap ((ag.wrap (b-2))* 2)).tdiv (5:Int))),.i (ag.wrap (2+(ag.wrap (2* (ag.wrap ((ag.wrap ((ag.wrap (b-2))* 2)).tdiv (5:Int))))))),.i b] (aD (⟨a,0,none⟩:Addr) 5 λe=>K (.tuple ⟨[.agg ⟨e⟩,.i 0]⟩))))))
def qU(a:Int)(K:VK):WK:=mk [.i 0,.i 0,.i 0,.i 0,.i 0] λb=>br (decide (a<12)) (qU.j1 K b a true) (qU.j1 K b a (decide (a>4096)))
def lR(b:LV)(c:Int)(K:VK):WK:=mk b λa=>ld ((⟨a,0,none⟩:Addr).add 0) (xI .i64 λd=>ld ((⟨a,0,none⟩:Addr).add 1) (xI .i64 λe=>aY (1=1/\(1=1/\True)) (yF [.i d,.i e] 2 (ch .i64 .and c 1) (xI .i64 λf=>K (.i f)))))
def nN(g:LV)(c:OA)(d h:Int)(j:BA)(K:VK):WK:=mk g λa=>br (c.isNone) (K (.i 2)) (tick (aD (⟨a,0,none⟩:Addr) 5 λk=>aD (⟨a,0,none⟩:Addr) 5 λe=>ld ((⟨a,0,none⟩:Addr).add 2) (xI .i64 λb=>lR k d (xI .i64 λl=>kp ((⟨a,0,none⟩:Addr).add 2) [.i b] (kp (⟨a,0,none⟩:Addr) e (lR e d (xI .i64 λm=>kp ((⟨a,0,none⟩:Addr).add 2) [.i b] (iH c l (ag.wrap (m+b)) h j (xI .i64 λf=>kp ((⟨a,0,none⟩:Addr).add 2) [.i b] (br (f !=0) (K (.i f)) (iI c (xI .i64 λn=>K (.i n)))))))))))))
def nO(g:LV)(d:OA)(e h j:Int)(K:VK):WK:=mk g λa=>br (d.isNone) (K (.tuple ⟨[.s .empty,.b false]⟩)) (tick (aD (⟨a,0,none⟩:Addr) 5 λk=>aD (⟨a,0,none⟩:Addr) 5 λf=>ld ((⟨a,0,none⟩:Addr).add 2) (xI .i64 λc=>lR k e (xI .i64 λl=>kp ((⟨a,0,none⟩:Addr).add 2) [.i c] (kp (⟨a,0,none⟩:Addr) f (lR f e (xI .i64 λm=>kp ((⟨a,0,none⟩:Addr).add 2) [.i c] (fU d l (ag.wrap (m+c)) h j (x2 λn o=>(xS λp=>(xB λq=>kp ((⟨a,0,none⟩:Addr).add 2) [.i c] (K (.tuple ⟨[.s p,.b q]⟩))) o) n)))))))))
def mW(e:LV)(a:Int)(K:VK):WK:=mk e λc=>tick (br (decide (a>=0)) (ld ((⟨c,0,none⟩:Addr).add 2) (xI .i64 λd=>jt a (xI .i64 λf=>kp ((⟨c,0,none⟩:Addr).add 2) [.i d] (K (.b (decide (f<=d))))))) (K (.b false)))
def rQ(c:LV)(K:VK):WK:=mk c λa=>ld ((⟨a,0,none⟩:Addr).add 0) (xI .i64 λd=>br (decide (d>=1)) (ld ((⟨a,0,none⟩:Addr).add 0) (xI .i64 λe=>br (decide (e<=1152921504606846976)) (ld ((⟨a,0,none⟩:Addr).add 1) (xI .i64 λf=>br (decide (f>=1)) (ld ((⟨a,0,none⟩:Addr).add 1) (xI .i64 λg=>br (decide (g<=1152921504606846976)) (ld ((⟨a,0,none⟩:Addr).add 2) (xI .i64 λh=>br (decide (h>=0)) (ld ((⟨a,0,none⟩:Addr).add 2) (xI .i64 λi=>br (decide (i<=425984)) (ld ((⟨a,0,none⟩:Addr).add 3) (xI .i64 λj=>br (decide (j>=0)) (ld ((⟨a,0,none⟩:Addr).add 3) (xI .i64 λk=>K (.b (decide (k<=1152921504606846976))))) (K (.b false)))) (K (.b false)))) (K (.b false)))) (K (.b false)))) (K (.b false)))) (K (.b false)))) (K (.b false)))
def sB(m:LV)(K:VK):WK:=mk m λc=>aD (⟨c,0,none⟩:Addr) 4 λn=>rQ n (xB λo=>br (!o) (K (.tuple ⟨[.s .empty,.i 1]⟩)) (aY True (mk [.l none 0 0] λq=>ld ((⟨c,0,none⟩:Addr).add 0) (xI .i64 λr=>ld ((⟨c,0,none⟩:Addr).add 1) (xI .i64 λt=>ld ((⟨c,0,none⟩:Addr).add 2) (xI .i64 λu=>ld ((⟨c,0,none⟩:Addr).add 3) (xI .i64 λv=>aY (1=1/\(1=1/\(1=1/\(1=1/\True)))) ((λw=>∃(g:LV->World->Prop)(j:LV->World->Nat),g [.s .empty,.i 0,.p (some (⟨q,0,none⟩:Addr)),.agg ⟨[.i r,.i t,.i u,.i v]⟩,.i 0] w/\∀(e:BA)(f:Int)(a:Addr)(d:LV)(b:Int)(h:World),g [.s e,.i f,.p (some a),.agg ⟨d⟩,.i b] h->(br (decide (b<4)) (yF d 4 b (xI .i64 λx=>aQ (some a) 8 x (x0 ((λk=>g [.s e,.i f,.p (some a),.agg ⟨d⟩,.i (ag.wrap (b+1))] k/\j [.s e,.i f,.p (some a),.agg ⟨d⟩,.i (ag.wrap (b+1))] k<j [.s e,.i f,.p (some a),.agg ⟨d⟩,.i b] h))))) (cF (some a) (xS λy=>K (.tuple ⟨[.s y,.i 0]⟩)))) h)))))))))
def rj(a:OA)(e:Int)(f:LV)(K:VK):WK:=mk f λb=>aD (⟨b,0,none⟩:Addr) 4 λg=>sB g (x2 λh j=>(xS λk=>(xI .i64 λc=>br (a.isNone) (K (.i 2)) (br (c !=0) (K (.i c)) (ld ((⟨b,0,none⟩:Addr).add 0) (xI .i64 λl=>ld ((⟨b,0,none⟩:Addr).add 0) (xI .i64 λm=>iH a (ch .i64 .and l 1) (ag.wrap ((ch .i64 .and m 1)+1)) e k (xI .i64 λd=>br (d !=0) (K (.i d)) (iI a (xI .i64 λn=>K (.i n))))))))) j) h)
def gZ(a:OA)(K:VK):WK:=br (!(a.isNone)) (nn a λc=>ld (c.add 1) (xB λd=>br (!d) (nn a λe=>ld (e.add 0) (xS λf=>K (.b (me f (⟨#[]⟩:BA))))) (K (.b false)))) (K (.b false))
def uF(f:BA)(K:VK):WK:=mk [.i 0,.i 0,.i 0,.i 0] λa=>kY f (xP λc=>aF c 8 (xI .i64 λg=>aF c 8 (xI .i64 λh=>aF c 8 (xI .i64 λj=>aF c 8 (xI .i64 λk=>aY (1=1/\(1=1/\(1=1/\(1=1/\True)))) (mk [.i 0,.i 0,.i 0,.i 0] λd=>aY (4=4) (fH (⟨d,0,none⟩:Addr) [.i g,.i h,.i j,.i k] (gZ c (xB λl=>br (!l) (aY True (aY (4=4) (fH (⟨a,0,none⟩:Addr) [.i 0,.i 0,.i 0,.i 0] (aD (⟨a,0,none⟩:Addr) 4 λm=>K (.tuple ⟨[.agg ⟨m⟩,.b false]⟩))))) (aD (⟨d,0,none⟩:Addr) 4 λn=>rQ n (xB λo=>br (!o) (aY True (aY (4=4) (fH (⟨a,0,none⟩:Addr) [.i 0,.i 0,.i 0,.i 0] (aD (⟨a,0,none⟩:Addr) 4 λp=>K (.tuple ⟨[.agg ⟨p⟩,.b false]⟩))))) (aD (⟨d,0,none⟩:Addr) 4 λe=>aY (e.length=4) (fH (⟨a,0,none⟩:Addr) e (aD (⟨a,0,none⟩:Addr) 4 λq=>K (.tuple ⟨[.agg ⟨q⟩,.b true]⟩)))))))))))))))
def ml.j1(K:VK)(a f:Nat)(g:Int)(h:Bool):WK:=br h (aY True (aY (4=4) (fH (⟨a,0,none⟩:Addr) [.i 0,.i 0,.i 0,.i 0] (aD (⟨a,0,none⟩:Addr) 4 λj=>K (.tuple ⟨[.agg ⟨j⟩,.b false]⟩))))) (ld ((⟨f,0,none⟩:Addr).add 2) (xS λk=>uF k (x2 λl m=>(xA 4 λd=>(xB λn=>mk [.i 0,.i 0,.i 0,.i 0] λc=>aY (d.length=4) (fH (⟨c,0,none⟩:Addr) d (br (!n) (aY True (aY (4=4) (fH (⟨a,0,none⟩:Addr) [.i 0,.i 0,.i 0,.i 0] (aD (⟨a,0,none⟩:Addr) 4 λo=>K (.tuple ⟨[.agg ⟨o⟩,.b false]⟩))))) (ld ((⟨c,0,none⟩:Addr).add 0) (xI .i64 λp=>br ((ch .i64 .and p 1)!=g) (aY True (aY (4=4) (fH (⟨a,0,none⟩:Addr) [.i 0,.i 0,.i 0,.i 0] (aD (⟨a,0,none⟩:Addr) 4 λq=>K (.tuple ⟨[.agg ⟨q⟩,.b false]⟩))))) (aD (⟨c,0,none⟩:Addr) 4 λe=>aY (e.length=4) (fH (⟨a,0,none⟩:Addr) e (aD (⟨a,0,none⟩:Addr) 4 λr=>K (.tuple ⟨[.agg ⟨r⟩,.b true]⟩))))))))) m) l)))
def ml(e:OA)(b:Int)(K:VK):WK:=mk [.i 0,.i 0,.i 0,.i 0] λc=>gS e b (x2 λf g=>(xS λh=>(xI .i64 λj=>iP h (x2 λk l=>(xA 3 λd=>(xB λm=>mk [.i 0,.i 0,.s .empty] λa=>aY (d.length=3) (fH (⟨a,0,none⟩:Addr) d (br (j !=0) (ml.j1 K c a b true) (br (!m) (ml.j1 K c a b true) (ld ((⟨a,0,none⟩:Addr).add 1) (xI .i64 λn=>ml.j1 K c a b (n !=0))))))) l) k)) g) f)
def pg(f:OA)(K:VK):WK:=mk [.i 0,.i 0,.i 0,.i 0] λa=>ml f 0 (x2 λn o=>(xA 4 λg=>(xB λe=>mk [.i 0,.i 0,.i 0,.i 0] λc=>aY (g.length=4) (fH (⟨c,0,none⟩:Addr) g (ml f 1 (x2 λp q=>(xA 4 λh=>(xB λr=>mk [.i 0,.i 0,.i 0,.i 0] λd=>aY (h.length=4) (fH (⟨d,0,none⟩:Addr) h (br r (br (!e) (aD (⟨d,0,none⟩:Addr) 4 λj=>aY (j.length=4) (fH (⟨a,0,none⟩:Addr) j (aD (⟨a,0,none⟩:Addr) 4 λs=>K (.tuple ⟨[.agg ⟨s⟩,.b true]⟩)))) (ld ((⟨d,0,none⟩:Addr).add 0) (xI .i64 λt=>ld ((⟨c,0,none⟩:Addr).add 0) (xI .i64 λu=>br (decide (t>u)) (aD (⟨d,0,none⟩:Addr) 4 λk=>aY (k.length=4) (fH (⟨a,0,none⟩:Addr) k (aD (⟨a,0,none⟩:Addr) 4 λv=>K (.tuple ⟨[.agg ⟨v⟩,.b true]⟩)))) (aD (⟨c,0,none⟩:Addr) 4 λl=>aY (l.length=4) (fH (⟨a,0,none⟩:Addr) l (aD (⟨a,0,none⟩:Addr) 4 λw=>K (.tuple ⟨[.agg ⟨w⟩,.b e]⟩)))))))) (aD (⟨c,0,none⟩:Addr) 4 λm=>aY (m.length=4) (fH (⟨a,0,none⟩:Addr) m (aD (⟨a,0,none⟩:Addr) 4 λx=>K (.tuple ⟨[.agg ⟨x⟩,.b e]⟩))))))) q) p)))) o) n)
def o8(d:OA)(a c:Int)(K:VK):WK:=br (decide (a>=0)) (br (decide (a<c)) (dL d (xI .i64 λe=>K (.b (decide (c<=e))))) (K (.b false))) (K (.b false))
def bK(a:OA)(K:VK):WK:=br (!(a.isNone)) (nn a λc=>ld (c.add 1) (xB λd=>K (.b d))) (K (.b false))
def bK.u:WP|[.pointer a],K=>bK a K|_,_=>no
def dU.j2(K:VK)(d:Nat)(e:OA)(a f c:Int)(g:Bool):WK:=br g (K (.tuple ⟨[.s .empty,.i 0,.b false]⟩)) (ld ((⟨d,0,none⟩:Addr).add 0) (xI .i64 λh=>fU e a f h (ag.wrap (12+c)) (x2 λj k=>(xS λl=>(xB λm=>br (!m) (K (.tuple ⟨[.s .empty,.i 0,.b false]⟩)) (tick (iW l (some 12) none λn=>jt (ag.wrap (12+c)) (xI .i64 λo=>K (.tuple ⟨[.s n,.i (ag.wrap (a+o)),.b true]⟩))))) k) j)))
def dU.j1(K:VK)(c:OA)(d:Nat)(e:OA)(f g:Int)(h:Bool):WK:=br h (K (.tuple ⟨[.s .empty,.i 0,.b false]⟩)) (aF c 4 (xI .i64 λa=>bK c (xB λj=>br j (dU.j2 K d e f g a true) (dU.j2 K d e f g a (decide (a>32768))))))
def dU(d:OA)(c e h:Int)(K:VK):WK:=br (decide (c>=e)) (K (.tuple ⟨[.s .empty,.i 0,.b false]⟩)) (gS d c (x2 λj k=>(xS λl=>(xI .i64 λt=>iP l (x2 λm n=>(xA 3 λg=>(xB λo=>mk [.i 0,.i 0,.s .empty] λa=>aY (g.length=3) (fH (⟨a,0,none⟩:Addr) g (ld ((⟨a,0,none⟩:Addr).add 2) (xS λp=>kY p (xP λf=>aF f 8 (xI .i64 λq=>br (!o) (dU.j1 K f a d c e true) (ld ((⟨a,0,none⟩:Addr).add 1) (xI .i64 λr=>br (r !=0) (dU.j1 K f a d c e true) (dU.j1 K f a d c e (q !=h)))))))))) n) m)) k) j))
def iy.j1(K:VK)(o:OA)(q r z:Int)(A:Bool):WK:=br A (K (.tuple ⟨[.p none,.l none 0 0,.i 1]⟩)) (aY (1=1/\(1=1/\(1=1/\(1=1/\(1=1/\True))))) (mk [.p o,.i q,.i r,.i q,.i z,.b false] λB=>(λC=>∃(m:LV->World->Prop)(t:LV->World->Nat),m [.p none,.l none 0 0,.i 0,.p (some (⟨B,0,none⟩:Addr)),.l none 0 0] C/\∀(c:OA)(d:OA)(e:Nat)(f:Nat)(g:Int)(a:Addr)(h:OA)(j:Nat)(k:Nat)(n:World),m [.p c,.l d e f,.i g,.p (some a),.l h j k] n->(tick (ld (a.add 3) (xI .i64 λD=>ld (a.add 4) (xI .i64 λu=>dU o D r (ag.wrap (u+1)) (x3 λE F G=>(xS λH=>(xI .i64 λI=>(xB λJ=>kp (a.add 4) [.i u] (br (!J) (K (.tuple ⟨[.p (some a),.l h j k,.i 0]⟩)) (aY (1=1/\True) (mk [.s H] λM=>jO 1 16 [.s .empty] h j k (ai M) 1 λv w x=>ld (a.add 4) (xI .i64 λO=>st (a.add 3) (.i I) (st (a.add 4) (.i (ag.wrap (O+1))) ((λy=>m [.p c,.l d e f,.i g,.p (some a),.l v w x] y/\t [.p c,.l d e f,.i g,.p (some a),.l v w x] y<t [.p c,.l d e f,.i g,.p (some a),.l h j k] n)))))))) G) F) E))))) n)))
def iy(a:OA)(c d b:Int)(K:VK):WK:=br (a.isNone) (K (.tuple ⟨[.p none,.l none 0 0,.i 2]⟩)) (o8 a c d (xB λe=>br (!e) (iy.j1 K a c d b true) (br (decide (b<0)) (iy.j1 K a c d b true) (iy.j1 K a c d b (decide (b>1152921504606846976))))))
def gA(a:OA)(c:Int)(K:VK):WK:=tick (br (!(a.isNone)) (br (decide (c>=0)) (br (decide (c<=32768)) (nn a λd=>ld (d.add 2) (xI .i64 λe=>nn a λf=>ld (f.add 3) (xI .i64 λg=>jt (ag.wrap (12+c)) (xI .i64 λh=>kp (f.add 3) [.i g] (kp (d.add 2) [.i e] (K (.b (decide (h<=(ag.wrap (e-g))))))))))) (K (.b false))) (K (.b false))) (K (.b false)))
def qk(c:Int)(b:BA)(K:VK):WK:=aY True (mk [.l none 0 0] λa=>aQ (some (⟨a,0,none⟩:Addr)) 8 c (x0 (aQ (some (⟨a,0,none⟩:Addr)) 4 (b.size:Int) (x0 (iM (some (⟨a,0,none⟩:Addr)) b (x0 (cF (some (⟨a,0,none⟩:Addr)) (xS λd=>K (.s d)))))))))
def bu.j3(K:VK)(a:OA)(f:BA)(c:Int):WK:=br (c !=0) (nn a λg=>st (g.add 5) (.b true) (K (.i c))) (tick (nn a λd=>ld (d.add 3) (xI .i64 λe=>jt (ag.wrap (12+(f.size:Int))) (xI .i64 λh=>kp (d.add 3) [.i e] (nn a λj=>st (j.add 3) (.i (ag.wrap (e+h))) (nn a λk=>ld (k.add 4) (xI .i64 λl=>nn a λm=>st (m.add 4) (.i (ag.wrap (l+1))) (K (.i 0)))))))))
def bu.j2(K:VK)(a:OA)(b:BA)(m:Int)(n:Bool):WK:=br n (K (.i 6)) (tick (nn a λe=>ld (e.add 0) (xP λf=>nn a λg=>ld (g.add 3) (xI .i64 λh=>nn a λj=>ld (j.add 2) (xI .i64 λk=>nn a λc=>ld (c.add 4) (xI .i64 λd=>qk (ag.wrap (d+1)) b (xS λo=>kp (c.add 4) [.i d] (kp (j.add 2) [.i k] (kp (g.add 3) [.i h] (kp (e.add 0) [.p f] (iH f h k m o (xI .i64 λl=>kp (c.add 4) [.i d] (br (l==0) (nn a λq=>ld (q.add 0) (xP λr=>iI r (xI .i64 λs=>bu.j3 K a b s))) (bu.j3 K a b l))))))))))))))
def bu.j1(K:VK)(a:OA)(b:BA)(c:Int)(d:Bool):WK:=br d (K (.i 1)) (gA a (b.size:Int) (xB λe=>br (!e) (bu.j2 K a b c true) (nn a λf=>ld (f.add 4) (xI .i64 λg=>bu.j2 K a b c (decide (g>=1152921504606846976))))))
def bu(a:OA)(b:Int)(c:BA)(K:VK):WK:=br (a.isNone) (K (.i 2)) (nn a λd=>ld (d.add 5) (xB λe=>br e (K (.i 9)) (br (decide (b<1)) (bu.j1 K a c b true) (bu.j1 K a c b (decide (b>1152921504606846976))))))
def iY(a:OA)(K:VK):WK:=br (a.isNone) (K (.i 0)) (nn a λb=>ld (b.add 4) (xI .i64 λc=>K (.i c)))
def gB(a:OA)(K:VK):WK:=br (!(a.isNone)) (nn a λb=>ld (b.add 1) (xI .i64 λc=>nn a λd=>st (d.add 3) (.i c) (K (.tuple ⟨[]⟩)))) (K (.tuple ⟨[]⟩))
end Go.Prog
namespace Go.Prog.N
abbrev kE:Nat:=66
abbrev dQ:Nat:=223
abbrev dx:Nat:=248
abbrev dc:Nat:=272
abbrev db:Nat:=274
abbrev dP:Nat:=222
abbrev da:Nat:=229
abbrev c8:Nat:=186
abbrev c7:Nat:=267
abbrev eY:Nat:=134
abbrev iT:Nat:=135
abbrev eG:Nat:=137
abbrev gv:Nat:=173
abbrev vG:Nat:=2
abbrev qz:Nat:=0
abbrev kS:Nat:=138
abbrev II:Nat:=187
abbrev dS:Nat:=252
abbrev aF:Nat:=62
abbrev bY:Nat:=87
abbrev bK:Nat:=98
abbrev bJ:Nat:=193
abbrev bI:Nat:=277
abbrev cf:Nat:=195
abbrev cb:Nat:=279
abbrev jD:Nat:=68
end Go.Prog.N
