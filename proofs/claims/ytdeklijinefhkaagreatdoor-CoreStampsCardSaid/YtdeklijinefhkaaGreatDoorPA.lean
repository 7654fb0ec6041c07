/- Part of the proof: see the last text. -/
import Derived.OrdersHeld
import Derived.Calls
import Derived.KernelRfl
import Derived.Laws.Append
import Derived.Laws.CopyRow
import Derived.Tactics
import Derived.WalkKit
import Derived.Laws.BytesString
import Derived.Laws.MakeOwn
import Derived.Below
import Derived.Lib.Builder
import Derived.Lib.UnsafeStr
set_option linter.all false
set_option maxRecDepth 100000
set_option synthInstance.maxSize 100000
open Array renaming replicate→jL,ext'→tt
open Bool renaming false_eq_true→cM,and_eq_true→df,not_false→Pd,false_ne_true→cO,true_and→dQ
open Go.IntKind renaming i64→aa
open Int renaming toNat_natCast→ak
open List renaming range→qk,map_cons→dx,getElem?_eq_getElem→aj,getElem?_eq_none→qu,append_assoc→aH,nil_append→cQ,take_append_drop→dy,drop_drop→jX,cons_append→lY,map_nil→ou,getElem?_eq_some_iff→ar,getElem?_map→fy,drop_zero→jf,mem_cons_of_mem→jV,getElem?_range→rL,getElem?_cons_zero→H',getElem?_cons_succ→bX,mem_cons→ka,mem_of_find?_eq_some→nD,mem_filter→Bn,Perm→cf,length_cons→bE,getElem?_append_left→ch,getElem?_append_right→iN,set_set→jH,set_cons_succ→nN,ext_getElem?→qX,getElem?_drop→ta,getElem?_set_ne→Pc,length_append→av,length_drop→aS,append_nil→bR,map_append→cF,mem_map→cV,drop_of_length_le→gG,map_congr_left→jv,map_map→sY,replicate→bw,drop_eq_getElem_cons→gh,take_length→aV,getElem_mem→bF,length_map→bQ,mem_of_getElem?→cD,mem_or_eq_of_mem_set→fq,getD_eq_getElem?_getD→jW,take_succ_eq_append_getElem→qV,length_nil→cR,getElem?_set→dk,length_singleton→qt
open Nat renaming beq→iB,eq_of_beq_eq_true→eS,zero_le→aF,add_zero→gM,le_of_ble_eq_true→aK,le_refl→aI,zero_add→aB,mul_le_mul_right→iA,add_mul→mG,reduceAdd→ae,reduceMul→af,mul_one→mF
open Option renaming some→bA,getD_some→dI
namespace Go
abbrev OA:=Option Addr
abbrev LV:=List Value
abbrev BA:=ByteArray
abbrev Value.i(n:Int):Value:=.int .i64 n
abbrev Value.u(n:Int):Value:=.int .u64 n
abbrev Value.p(a:OA):Value:=.pointer a
abbrev Value.l(a:OA)(n c:Nat):Value:=.slice a n c
abbrev Value.b(x:Bool):Value:=.bool x
abbrev Value.s(x:BA):Value:=.string x
abbrev Value.g(x:LV):Value:=.agg ⟨x⟩
abbrev Value.t(x:LV):Value:=.tuple ⟨x⟩
abbrev ah(r:Nat):OA:=some ⟨r,0,none⟩
def ag:=@if_neg
def ai:=@if_pos
def ao:=@decide_eq_false
def aw:=@decide_eq_true
def aR:=@of_decide_eq_true
def aT:=@absurd
def bj:=@of_decide_eq_false
def fM:=@bne_iff_ne
def wK:=@beq_iff_eq
end Go
namespace Go.Den
abbrev Env:=List (Nat×Value)
abbrev WK:=World->Prop
abbrev VK:=Value->World->Prop
abbrev WP:=LV->VK->WK
abbrev Hr:=List (Nat×WP)
def lk:Env->Nat->Option Value
 |[],_=>none
 |(s,v)::e,t=>bif iB s t then some v else lk e t
def no:WK:=λ_=>False
def ev(e:Env):Operand->Option Value
 | .tmp t=>lk e t
 | .const v=>some v
 | .global g=>some (.pointer (some ⟨g,0,none⟩))
 | .func f=>some (.func (.func f) #[] #[])
def Sg(e:Env):List Operand->Option (LV)
 |[]=>some []
 |x::xs=>match ev e x with
  |some v=>match Sg e xs with
   |some vs=>some (v::vs)
   |none=>none
  |none=>none
def cw(p:Prop)(K:WK):WK:=λw=>p/\K w
def br(b:Bool)(X Y:WK):WK:=match b with|true=>X|false=>Y
def nn(p:OA)(K:Addr->WK):WK:=match p with|some a=>K a|none=>no
def xI(k:IntKind)(K:Int->WK):VK:=λv w=>∃n,v=.int k n/\K n w
def xB(K:Bool->WK):VK:=λv w=>∃b,v=.bool b/\K b w
def xS(K:BA->WK):VK:=λv w=>∃s,v=.string s/\K s w
def xP(K:OA->WK):VK:=λv w=>∃p,v=.pointer p/\K p w
def xL(K:OA->Nat->Nat->WK):VK:=λv w=>∃b n c,v=.slice b n c/\K b n c w
def xA(n:Nat)(K:LV->WK):VK:=λv w=>∃cs,v=.agg ⟨cs⟩/\cs.length=n/\K cs w
def Ng(z:Value)(K:VK):VK:=match z with
 | .int k _=>xI k λn=>K (.int k n)
 | .bool _=>xB λb=>K (.bool b)
 | .string _=>xS λs=>K (.string s)
 | .pointer _=>xP λp=>K (.pointer p)
 | .slice _ _ _=>xL λb n c=>K (.slice b n c)
 | .agg zs=>xA zs.size λcs=>K (.agg ⟨cs⟩)
 |_=>K
def x0(K:WK):VK:=λv w=>v=.tuple ⟨[]⟩/\K w
def x2(K:Value->Value->WK):VK:=λv w=>∃a b,v=.tuple ⟨[a,b]⟩/\K a b w
def x3(K:Value->Value->Value->WK):VK:=λv w=>∃a b c,v=.tuple ⟨[a,b,c]⟩/\K a b c w
def xT(z:Value)(K:VK):VK:=match z with
 | .tuple zs=>match zs.toList with
   |[]=>x0 (K (.tuple ⟨[]⟩))
   |[y,z]=>x2 λa b=>Ng y (λa=>Ng z (λb=>K (.tuple ⟨[a,b]⟩)) b) a
   |[x,y,z]=>x3 λa b c=>Ng x (λa=>Ng y (λb=>Ng z (λc=>K (.tuple ⟨[a,b,c]⟩)) c) b) a
   |_=>λ_=>no
 |z=>Ng z K
def aeR(z:Value)(f:Value->Prop):Prop:=match z with
 | .int k _=>∀n,f (.int k n)
 | .bool _=>∀b,f (.bool b)
 | .string _=>∀s,f (.string s)
 | .pointer (some _)=>∀a,f (.pointer (some a))
 | .pointer none=>∀p,f (.pointer p)
 | .slice _ _ _=>∀b n c,f (.slice b n c)
 | .agg _=>∀cs:LV,f (.agg ⟨cs⟩)
 |_=>∀v,f v
def G':LV->(LV->Prop)->Prop
 |[],f=>f []
 |z::zs,f=>aeR z λv=>G' zs λvs=>f (v::vs)
def fits(z v:Value):Bool:=match z,v with
 | .int k _,.int k' _=>decide (k=k')
 | .bool _,.bool _=>true
 | .string _,.string _=>true
 | .pointer none,.pointer _=>true
 | .pointer (some _),.pointer (some _)=>true
 | .slice _ _ _,.slice _ _ _=>true
 | .agg _,.agg _=>true
 | .int _ _,_=>false
 | .bool _,_=>false
 | .string _,_=>false
 | .pointer _,_=>false
 | .slice _ _ _,_=>false
 | .agg _,_=>false
 |_,_=>true
def ld(a:Addr)(K:VK):WK:=λw=>∃v,w.cell? a=some v/\K v w
def yU(w:World)(a:Addr)(cs:LV):Prop:=∀j v,cs[j]?=some v->w.cell? (a.add j)=some v
def aJ(a:Addr)(n:Nat)(K:LV->WK):WK:=λw=>∃cs,cs.length=n/\yU w a cs/\K cs w
def st(a:Addr)(v:Value)(K:WK):WK:=λw=>v.oneCell'=true/\(∃o,w.cell? a=some o)/\w.frozen? a=false/\K (w.setCell a v)
def AT(w:World)(a:Addr)(i:Nat):LV->World
 |[]=>w
 |v::r=>AT (w.setCell (a.add i) v) a (i+1) r
def yI(w:World)(a:Addr)(i:Nat)(cs:LV):Prop:=
 (∀v∈cs,v.oneCell'=true)/\∀j,j<cs.length->(∃o,w.cell? (a.add (i+j))=some o)/\w.frozen? (a.add (i+j))=false
def jY(a:Addr)(cs:LV)(K:WK):WK:=λw=>yI w a 0 cs/\K (AT w a 0 cs)
def mk(cs:LV)(K:Nat->WK):WK:=λw=>∀t,K w.heap.size (w.alloc (.cells ⟨cs⟩ t))
def mkT(t:TypeId)(cs:LV)(K:Nat->WK):WK:=λw=>K w.heap.size (w.alloc (.cells ⟨cs⟩ t))
def tick(K:WK):WK:=λw=>K w.drew
def MT(T:Hr)(f:Nat):WP:=match T with
 |[]=>λ_ _=>no
 |(g,p)::r=>bif iB g f then p else MT r f
def iW(b:OA)(len:Nat)(i:Int)(size:Nat)(K:Addr->WK):WK:=
 λw=>∃a,b=some a/\(0<=i/\i<len)/\K (a.add (i.toNat* size)) w
def AH(s:BA)(i:Int)(K:UInt8->WK):WK:=λw=>∃c,(0<=i/\s.data.toList[i.toNat]?=some c)/\K c w
def DQ(cs:LV)(len:Nat)(i:Int)(K:VK):WK:=λw=>∃v,(0<=i/\i<len/\cs[i.toNat]?=some v)/\K v w
def zi(b:OA)(cap l size:Nat):OA:=if cap=l then b else b.map (·.add (l* size))
def tf(b:OA)(len cap size:Nat)(lo hi:Option Int)(K:OA->Nat->Nat->WK):WK:=
 match hi with
 |none=>match lo with
  |none=>K (zi b cap 0 size) len cap
  |some l=>cw (0<=l/\l<=len) (K (zi b cap l.toNat size) (len-l.toNat) (cap-l.toNat))
 |some h=>cw (0<=h/\h<=cap) (match lo with
  |none=>K (zi b cap 0 size) h.toNat cap
  |some l=>cw (0<=l/\l<=h) (K (zi b cap l.toNat size) (h.toNat-l.toNat) (cap-l.toNat)))
def mT(s:BA)(lo hi:Option Int)(K:BA->WK):WK:=
 match hi with
 |none=>match lo with
  |none=>K (s.extract 0 s.size)
  |some l=>cw (0<=l/\l<=s.size) (K (s.extract l.toNat s.size))
 |some h=>cw (0<=h/\h<=s.size) (match lo with
  |none=>K (s.extract 0 h.toNat)
  |some l=>cw (0<=l/\l<=h) (K (s.extract l.toNat h.toNat)))
def Src(w:World)(n size:Nat)(b:OA)(cs:LV):Prop:=
 cs.length=n* size/\∀a,b=some a->yU w a cs
def strCells(s:BA):LV:=s.data.toList.map λc=>.int .u8 c.toNat
def Zg(size bytes:Nat)(zero:LV)(b:OA)(len cap n:Nat)(new:LV)(K:OA->Nat->Nat->WK):WK:=λw=>
 (len+n<=cap->(∀a,b=some a->yI w (a.add (len* size)) 0 new/\K b (len+n) cap (AT w (a.add (len* size)) 0 new))/\(b=none->K b (len+n) cap w))/\
 (cap<len+n->(len+n)* bytes<=140737488355328/\(len+n:Nat)<=(9223372036854775807:Int)/\∃old,Src w len size b old/\(b=none->len=0)/\
  ∀c' t,len+n<=c'->K (some ⟨w.heap.size,0,none⟩) (len+n) c' (w.drew.alloc (.cells ((old++new).toArray++Builtin.zeroCells ⟨zero⟩ (c'-(len+n))) t)))
def iP(size bytes:Nat)(zero:LV)(b:OA)(len cap:Nat)(b':OA)(n:Nat)(K:OA->Nat->Nat->WK):WK:=λw=>
 ∃new,Src w n size b' new/\(b'=none->n=0)/\Zg size bytes zero b len cap n new K w
def G8(b:OA)(len cap:Nat)(s:BA)(K:OA->Nat->Nat->WK):WK:=
 Zg 1 1 [.int .u8 0] b len cap s.size (strCells s) K
def bytesOf(cs:LV):List UInt8:=cs.map λ| .int _ n=>UInt8.ofNat n.toNat|_=>0
def VQ(b:OA)(n:Nat)(K:BA->WK):WK:=λw=>
 (b=none->K .empty w)/\∀a,b=some a->∃cs,cs.length=n/\yU w a cs/\(∀v∈cs,∃m,v=.int .u8 m)/\K ⟨⟨bytesOf cs⟩⟩ w
def s2b(s:BA)(K:Nat->Nat->WK):WK:=λw=>
 ∀c t,s.size<=c->K w.heap.size c ((w.drew.alloc (.cells ((strCells s).toArray++jL (c-s.size) (.int .u8 0)) t)).freeze ⟨w.heap.size,c,none⟩ 1)
def L3(bytes:Nat)(zero:LV)(len cap:Int)(K:OA->Nat->Nat->WK):WK:=λw=>
 (0<=len/\len<=cap/\cap<=9223372036854775807/\cap* bytes<=281474976710656)/\
 ∀t,K (some ⟨w.heap.size,0,none⟩) len.toNat cap.toNat (w.alloc (.cells (Builtin.zeroCells ⟨zero⟩ cap.toNat) t))
def Vy(size:Nat)(b:OA)(len:Nat)(b':OA)(X5:Nat)(K:Nat->WK):WK:=λw=>
 ∃new,Src w (min X5 len) size b' new/\(b'=none->min X5 len=0)/\(b=none->K (min X5 len) w)/\∀a,b=some a->yI w a 0 new/\K (min X5 len) (AT w a 0 new)
def Y4(cs:LV)(b:OA)(len:Nat)(K:WK):WK:=λw=>
 (b=none\/len=0->K w)/\∀a,b=some a->len≠0->yI w a 0 cs/\K (AT w a 0 cs)
def xF(T:Hr)(v:Value)(args:LV)(K:VK):WK:=match v with
 | .func (.func g) first cap=>MT T g (first.toList++args++cap.toList) K
 |_=>no
def ZZ(v:Value)(K:VK):WK:=match v with
 | .pointer p=>nn p λa=>K (.pointer (some a))
 | .func (.func g) first cap=>K (.func (.func g) first cap)
 |_=>no
end Go.Den
namespace Go.Den
def dj(k:IntKind)(op:BinOp)(x y:Int):Int:=
 match op with
 | .and=>k.wrap ((BitVec.ofInt k.bits x&&&BitVec.ofInt k.bits y).toNat)
 | .or=>k.wrap ((BitVec.ofInt k.bits x|||BitVec.ofInt k.bits y).toNat)
 | .xor=>k.wrap ((BitVec.ofInt k.bits x^^^BitVec.ofInt k.bits y).toNat)
 |_=>k.wrap ((BitVec.ofInt k.bits x&&&~~~BitVec.ofInt k.bits y).toNat)
def shl(k:IntKind)(x y:Int):Int:=k.wrap (x* 2^(min y.toNat k.bits))
def shr(k:IntKind)(x y:Int):Int:=x.fdiv (2^(min y.toNat k.bits))
def Gv(op:BinOp)(k:IntKind)(x y:Int)(K:VK):WK:=
 match op with
 | .add=>K (.int k (k.wrap (x+y)))
 | .sub=>K (.int k (k.wrap (x-y)))
 | .mul=>K (.int k (k.wrap (x* y)))
 | .quo=>cw (y≠0) (K (.int k (k.wrap (x.tdiv y))))
 | .rem=>cw (y≠0) (K (.int k (x.tmod y)))
 | .and=>K (.int k (dj k .and x y))
 | .or=>K (.int k (dj k .or x y))
 | .xor=>K (.int k (dj k .xor x y))
 | .andNot=>K (.int k (dj k .andNot x y))
 | .eql=>K (.bool (x==y))
 | .neq=>K (.bool (x !=y))
 | .lss=>K (.bool (decide (x<y)))
 | .leq=>K (.bool (decide (x<=y)))
 | .gtr=>K (.bool (decide (x>y)))
 | .geq=>K (.bool (decide (x>=y)))
 | .shl=>cw (0<=y) (K (.int k (shl k x y)))
 | .shr=>cw (0<=y) (K (.int k (shr k x y)))
def nG(x y:BA):Bool:=x.toList==y.toList
def NS(op:BinOp)(x y:BA)(K:VK):WK:=
 match op with
 | .add=>cw (((x.size+y.size:Nat):Int)<=9223372036854775807) (K (.string (x++y)))
 | .eql=>K (.bool (nG x y))
 | .neq=>K (.bool (!nG x y))
 |_=>no
abbrev Td:=List (Nat×LV)
def GO:Td->Nat->Option (LV)
 |[],_=>none
 |(t,z)::r,u=>bif iB t u then some z else GO r u
def oZ:LV->LV->Bool
 |[],[]=>true
 |z::zs,v::vs=>fits z v&&oZ zs vs
 |_,_=>false
def Bc(x y:Value):Bool:=match x,y with
 | .int _ a,.int _ b=>a==b
 | .bool a,.bool b=>a==b
 | .string a,.string b=>nG a b
 |_,_=>false
def iK:LV->LV->Bool
 |[],[]=>true
 |x::xs,y::ys=>Bc x y&&iK xs ys
 |_,_=>false
def sm(zs xs ys:LV)(K:Bool->WK):WK:=λw=>(oZ zs xs=true/\oZ zs ys=true)/\K (iK xs ys) w
def OV(P:Program)(E:Td)(op:BinOp)(t:TypeId)(x y:Value)(K:VK):WK:=
 match x,y with
 | .int k a,.int k' b=>match op with
   | .shl=>Gv .shl k a b K
   | .shr=>Gv .shr k a b K
   |op=>bif decide (k=k') then Gv op k a b K else no
 | .string a,.string b=>NS op a b K
 | .bool a,.bool b=>match P.underlying t,op with
   |some .bool,.eql=>K (.bool (a==b))
   |some .bool,.neq=>K (.bool (!(a==b)))
   |_,_=>no
 | .pointer p,.pointer none=>match P.underlying t,op with
   |some (.pointer _),.eql=>K (.bool p.isNone)
   |some (.pointer _),.neq=>K (.bool (!p.isNone))
   |_,_=>no
 | .slice p _ _,.slice none _ _=>match P.underlying t,op with
   |some (.slice _),.eql=>K (.bool p.isNone)
   |some (.slice _),.neq=>K (.bool (!p.isNone))
   |_,_=>no
 | .agg xs,.agg ys=>match GO E t,op with
   |some zs,.eql=>sm zs xs.toList ys.toList λb=>K (.bool b)
   |some zs,.neq=>sm zs xs.toList ys.toList λb=>K (.bool (!b))
   |_,_=>no
 |_,_=>no
def Tx(op:UnOp)(x:Value)(K:VK):WK:=
 match op,x with
 | .not,.bool b=>K (.bool (!b))
 | .neg,.int k n=>K (.int k (k.wrap (0-n)))
 | .xor,.int k n=>K (.int k (dj k .xor (if k.signed then-1 else k.max) n))
 |_,_=>no
def E4(P:Program)(s d:TypeId)(x:Value)(K:VK):WK:=
 match P.underlying s with
 |none=>no
 |some sd=>match P.underlying d,x with
  |some (.int k),.int _ n=>K (.int k (k.wrap n))
  |some .string,.string _=>K x
  |some (.slice e),.string b=>match P.underlying e with
   |some (.int .u8)=>s2b b λr c=>K (.slice (some ⟨r,0,none⟩) b.size c)
   |_=>no
  |some .string,.slice p n _=>match sd with
   | .slice e=>match P.underlying e with
     |some (.int .u8)=>VQ p n λb=>K (.string b)
     |_=>no
   |_=>no
  |_,_=>no
def zeroOf(P:Program)(t:TypeId):Option Value:=
 match P.info? t with
 |some i=>i.zero
 |none=>none
def fE(v:Value):LV:=match v with| .agg cs=>cs.toList|v=>[v]
def uI(d:TypeDesc):Bool:=match d with| .struct _| .array _ _=>true|_=>false
def B0(r:Nat):Value:=.pointer (some ⟨r,0,none⟩)
def Ip(P:Program)(t:TypeId):Bool:=
 match P.underlying t with
 |some (.struct fs)=>match fs.toList with
  |[f,g]=>match P.underlying f.type,P.underlying g.type with
   |some (.pointer e),some (.slice _)=>iB e t
   |_,_=>false
  |_=>false
 |_=>false
def Ca(P:Program)(t:TypeId)(a:Addr)(K:LV->VK):WK:=
 match P.underlying t,P.info? t with
 |some d,some i=>bif uI d then aJ a i.size λcs=>K cs (.agg ⟨cs⟩) else
                  match i.zero with
                  |some z=>ld a (Ng z λv=>K [v] v)
                  |none=>no
 |_,_=>no
def FE(P:Program)(t:TypeId)(a:Addr)(v:Value)(K:VK):WK:=
 match P.info? t with
 |some i=>match v with
  | .agg cs=>cw (cs.toList.length=i.size) (jY a cs.toList (K undef))
  |v=>bif iB i.size 1 then st a v (K undef) else no
 |none=>no
def vM(zero:LV):List (Nat×Nat)->Nat->Nat->List (Nat×LV)->Option (LV×Prop)
 |[],at_,_,ps=>bif iB at_ zero.length then(match ps with|[]=>some ([],True)|_=>none) else none
 |(off,n)::fs,at_,i,ps=>bif iB off at_ then
                         (match ps with
                         |[]=>match vM zero fs (at_+n) (i+1) [] with
                          |some (r,p)=>some ((zero.drop off).take n++r,p)
                          |none=>none
                         |(j,cs)::ps'=>bif iB i j then
                            match vM zero fs (at_+n) (i+1) ps' with
                            |some (r,p)=>some (cs++r,cs.length=n/\p)
                            |none=>none
                          else match vM zero fs (at_+n) (i+1) ps with
                           |some (r,p)=>some ((zero.drop off).take n++r,p)
                           |none=>none)
  else none
def yd(P:Program):List Field->Option (List (Nat×Nat))
 |[]=>some []
 |f::fs=>match P.info? f.type,yd P fs with
  |some i,some r=>some ((f.offset,i.size)::r)
  |_,_=>none
def G2(P:Program)(t:TypeId)(parts:List (Nat×Value))(K:VK):WK:=
 match zeroOf P t,P.underlying t with
 |some (.agg z),some (.struct fs)=>match yd P fs.toList with
  |some pl=>match vM z.toList pl 0 0 (parts.map λp=>(p.1,fE p.2)) with
   |some (cs,p)=>cw p (K (.agg ⟨cs⟩))
   |none=>no
  |none=>no
 |some (.agg z),some (.array n e)=>match P.info? e with
  |some i=>match vM z.toList ((qk n).map λj=>(j* i.size,i.size)) 0 0 (parts.map λp=>(p.1,fE p.2)) with
   |some (cs,p)=>cw p (K (.agg ⟨cs⟩))
   |none=>no
  |none=>no
 |_,_=>no
def Bi(P:Program)(t:TypeId)(len:Nat)(parts:List (Nat×Value))(K:VK):WK:=
 match P.underlying t with
 |some (.slice e)=>match P.info? e with
  |some i=>match i.zero with
   |some z=>bif Nat.ble (len* i.size) 16777216&&Nat.blt 0 i.size&&iB (fE z).length i.size then
             match vM (Builtin.zeroCells ⟨fE z⟩ len).toList ((qk len).map λj=>(j* i.size,i.size)) 0 0 (parts.map λp=>(p.1,fE p.2)) with
             |some (cs,p)=>cw p (mk cs λr=>K (.slice (some ⟨r,0,none⟩) len len))
             |none=>no
    else no
   |none=>no
  |none=>no
 |_=>no
def Kl(e:Env):List (Nat×Operand)->Option (List (Nat×Value))
 |[]=>some []
 |(i,x)::r=>match ev e x,Kl e r with
  |some v,some vs=>some ((i,v)::vs)
  |_,_=>none
def WV(e:Env):Option Operand->Option (Option Int)
 |none=>some none
 |some x=>match ev e x with
  |some (.int _ n)=>some (some n)
  |_=>none
def FH(P:Program)(t:TypeId)(x:Value)(lo hi:Option Int)(K:VK):WK:=
 match P.underlying t,x with
 |some .string,.string s=>mT s lo hi λr=>K (.string r)
 |some (.slice e),.slice b n c=>match P.info? e with
  |some i=>tf b n c i.size lo hi λb n c=>K (.slice b n c)
  |none=>no
 |some (.array n e),.pointer (some a)=>match P.info? e with
  |some i=>tf (some a) n n i.size lo hi λb n c=>K (.slice b n c)
  |none=>no
 |_,_=>no
def yo(P:Program)(t:TypeId)(x i:Value)(K:VK):WK:=
 match P.underlying t,x,i with
 |some (.slice e),.slice b n _,.int _ j=>match P.info? e with
  |some i=>iW b n j i.size λa=>K (.pointer (some a))
  |none=>no
 |some (.array n e),.pointer (some a),.int _ j=>match P.info? e with
  |some i=>cw (0<=j/\j<n) (K (.pointer (some (a.add (j.toNat* i.size)))))
  |none=>no
 |_,_,_=>no
def Gw(P:Program)(t:TypeId)(x i:Value)(K:VK):WK:=
 match P.underlying t,x,i with
 |some .string,.string s,.int _ j=>AH s j λc=>K (.int .u8 c.toNat)
 |some (.array n e),.agg cs,.int _ j=>match P.underlying e,P.info? e with
  |some d,some i=>bif uI d then cw (0<=j/\j<n) (K (.agg ⟨(cs.toList.drop (j.toNat* i.size)).take i.size⟩))
   else bif iB i.size 1 then match i.zero with
    |some z=>DQ cs.toList n j (Ng z K)
    |none=>no
   else no
  |_,_=>no
 |_,_,_=>no
def GM(P:Program)(t:TypeId)(x:Value)(f:Nat)(K:VK):WK:=
 match P.underlying t,x with
 |some (.struct fs),.agg cs=>match fs[f]? with
  |some fl=>match P.underlying fl.type,P.info? fl.type with
   |some d,some i=>bif uI d then K (.agg ⟨(cs.toList.drop fl.offset).take i.size⟩)
    else match i.zero with
     |some z=>λw=>∃v,cs.toList[fl.offset]?=some v/\Ng z K v w
     |none=>no
   |_,_=>no
  |none=>no
 |_,_=>no
def yw(P:Program)(t:TypeId)(x:Value)(f:Nat)(K:VK):WK:=
 match P.underlying t,x with
 |some (.struct fs),.pointer (some a)=>match fs[f]? with
  |some fl=>match P.info? fl.type with
   |some i=>bif iB i.size 0 then no else K (.pointer (some (a.add fl.offset)))
   |none=>no
  |none=>no
 |_,_=>no
def Gn(P:Program)(t:TypeId)(x:Value)(K:VK):WK:=
 match P.underlying t,x with
 |some .string,.string s=>K (.i s.size)
 |some (.slice _),.slice _ n _=>K (.i n)
 |some (.array n _),_=>K (.i n)
 |_,_=>no
def min2(x y:Int):Int:=if y<x then y else x
def max2(x y:Int):Int:=if y>x then y else x
def ru:Int->LV->Option Int
 |x,[]=>some x
 |x,.int _ y::r=>ru (min2 x y) r
 |_,_=>none
def Gm:Int->LV->Option Int
 |x,[]=>some x
 |x,.int _ y::r=>Gm (max2 x y) r
 |_,_=>none
def O0(P:Program)(t u:TypeId)(s x:Value)(K:VK):WK:=
 match P.underlying t,s with
 |some (.slice e),.slice b n c=>match P.info? e with
  |some i=>match i.zero with
   |some z=>match P.underlying u,x with
    |some (.slice _),.slice b' m _=>iP i.size i.bytes (fE z) b n c b' m λb n c=>K (.slice b n c)
    |some .string,.string y=>bif iB i.size 1&&iB i.bytes 1 then match z with
                              | .int .u8 0=>G8 b n c y λb n c=>K (.slice b n c)
                              |_=>no
     else no
    |_,_=>no
   |none=>no
  |none=>no
 |_,_=>no
def ada(b:Nat)(K:Int->WK):WK:=λw=>∃es c,w.heap[b]?=some (.map es c)/\K es.size w
def X4(v:Value)(K:Int->WK):WK:=match v with| .map (some b)=>ada b K|_=>no
def mkM(K:Nat->WK):WK:=λw=>K w.heap.size (w.alloc (.map #[] 0))
def IP(P:Program)(t:TypeId)(m k:Value)(K:VK):WK:=λw=>∃v,(Instr.lookup t m k false).run P w=.ok v w/\K v w
def Rv(P:Program)(t:TypeId)(m k v:Value)(K:WK):WK:=λw=>∃w',(Instr.mapUpdate t m k v).run P w=.ok () w'/\K w'
def Bh(P:Program)(b:Builtin)(ts:List TypeId)(args:LV)(K:VK):WK:=
 match b,ts,args with
 | .len,t::_,[x]=>match P.underlying t with
   |some (.map _ _)=>X4 x λn=>K (.i n)
   |_=>Gn P t x K
 | .min,_,.int k x::r=>match ru x r with|some m=>K (.int k m)|none=>no
 | .max,_,.int k x::r=>match Gm x r with|some m=>K (.int k m)|none=>no
 | .append,[t,u],[s,x]=>O0 P t u s x K
 | .copy,t::_,[.slice b n _,.slice b' m _]=>match P.underlying t with
   |some (.slice e)=>match P.info? e with
    |some i=>Vy i.size b n b' m λk=>K (.i k)
    |none=>no
   |_=>no
 | .clear,t::_,[.slice b n _]=>match P.underlying t with
   |some (.slice e)=>match P.info? e with
    |some i=>match i.zero with
     |some z=>Y4 (Builtin.zeroCells ⟨fE z⟩ n).toList b n (K (.tuple ⟨[]⟩))
     |none=>no
    |none=>no
   |_=>no
 | .cap,t::_,[.slice _ _ c]=>match P.underlying t with
   |some (.slice _)=>K (.i c)
   |_=>no
 |_,_,_=>no
def CA(P:Program)(T:Hr)(e:Env)(c:Call)(ty:TypeId)(K:VK):WK:=
 match Sg e c.args.toList with
 |none=>no
 |some args=>match c.callee with
  | .builtin b=>Bh P b c.argTypes.toList args K
  | .value f=>match ev e f with
    |some v=>match zeroOf P ty with
     |some z=>xF T v args (xT z K)
     |none=>no
    |none=>no
  | .invoke _ _=>no
def zv(P:Program)(T:Hr)(E:Td)(e:Env)(op:Op)(ty:TypeId)(K:VK):WK:=
 match op with
 | .move x| .assign x=>match ev e x with|some v=>K v|none=>no
 | .pick c x y=>match ev e c with
   |some (.bool b)=>br b (match ev e x with|some v=>K v|none=>no) (match ev e y with|some v=>K v|none=>no)
   |_=>no
 | .alloc t=>match zeroOf P t with
   |some z=>bif Ip P t then mkT t (fE z) λr=>K (B0 r) else mk (fE z) λr=>K (B0 r)
   |none=>no
 | .box _ x=>match ev e x with
   |some v=>mk (fE v) λr=>K (B0 r)
   |none=>no
 | .build t ps=>match Kl e ps.toList with
   |some l=>G2 P t l K
   |none=>no
 | .buildSlice t n ps=>match Kl e ps.toList with
   |some l=>Bi P t n l K
   |none=>no
 | .load t x=>match ev e x with
   |some (.pointer (some a))=>Ca P t a λ_=>K
   |_=>no
 | .store t x y=>match ev e x,ev e y with
   |some (.pointer (some a)),some v=>FE P t a v K
   |_,_=>no
 | .nilCheck x=>match ev e x with
   |some v=>ZZ v K
   |none=>no
 | .binOp op t x y _=>match ev e x,ev e y with
   |some a,some b=>OV P E op t a b K
   |_,_=>no
 | .unOp op _ x=>match ev e x with
   |some a=>Tx op a K
   |none=>no
 | .convert s d x=>match ev e x with
   |some a=>E4 P s d a K
   |none=>no
 | .makeFunc fn first cap=>match Sg e first.toList,Sg e cap.toList with
   |some f,some c=>K (.func fn ⟨f⟩ ⟨c⟩)
   |_,_=>no
 | .makeSlice t n c=>match P.underlying t,ev e n,ev e c with
   |some (.slice el),some (.int _ n),some (.int _ c)=>match P.info? el with
    |some i=>match i.zero with
     |some z=>bif Nat.blt 0 i.size&&iB (fE z).length i.size then L3 i.bytes (fE z) n c λb n c=>K (.slice b n c) else no
     |none=>no
    |none=>no
   |_,_,_=>no
 | .slice t x lo hi none=>match ev e x,WV e lo,WV e hi with
   |some v,some l,some h=>FH P t v l h K
   |_,_,_=>no
 | .fieldAddr t x f=>match ev e x with
   |some v=>yw P t v f K
   |none=>no
 | .field t x f=>match ev e x with
   |some v=>GM P t v f K
   |none=>no
 | .indexAddr t x i=>match ev e x,ev e i with
   |some v,some j=>yo P t v j K
   |_,_=>no
 | .index t x i=>match ev e x,ev e i with
   |some v,some j=>Gw P t v j K
   |_,_=>no
 | .extract x i=>match ev e x with
   |some (.tuple vs)=>match vs[i]? with
    |some v=>K v
    |none=>no
   |_=>no
 | .call c=>CA P T e c ty K
 | .makeMap _ none=>mkM λr=>K (.map (some r))
 | .lookup t m k false=>match ev e m,ev e k,P.underlying t with
   |some a,some b,some (.map _ el)=>match zeroOf P el with
    |some z=>IP P t a b (Ng z K)
    |none=>no
   |_,_,_=>no
 | .mapUpdate t m k v=>match ev e m,ev e k,ev e v with
   |some a,some b,some c=>Rv P t a b c (K undef)
   |_,_,_=>no
 |_=>no
def cover:Env->Nat->Bool
 |C,d=>match lk C d with|none=>true|some _=>false
def pt(n:Nat)(C:Env)(e:Env)(d:Option Tmp)(v:Value)(K:Env->WK):WK:=
 match d with
 |none=>K e
 |some d=>bif Nat.blt d n&&cover C d then K ((d,v)::e) else no
structure Fn where
 P:Program
 T:Hr
 E:Td
 n:Nat
 C:Env
 Kv:List (Nat×List (Nat×Value))
def Sd(ops:Array Oper)(j:Nat):Option Tmp:=match ops[j]? with|some o=>o.dst|none=>none
def OX(a b:Bool):Bool:=match a,b with|true,true=>true|false,false=>true|_,_=>false
def ZX(F:Fn)(ops:Array Oper)(o:Oper)(K:Env->WK)(e:Env):WK:=
 match o.guard with
 |none=>zv F.P F.T F.E e o.op o.type λv=>pt F.n F.C e o.dst v K
 |some (j,want)=>match Sd ops j with
  |none=>no
  |some d=>match lk e d with
   |some (.bool b)=>
    br b (bif OX true want then zv F.P F.T F.E ((d,.bool true)::e) o.op o.type λv=>pt F.n F.C ((d,.bool true)::e) o.dst v K else pt F.n F.C ((d,.bool true)::e) o.dst undef K)
     (bif OX false want then zv F.P F.T F.E ((d,.bool false)::e) o.op o.type λv=>pt F.n F.C ((d,.bool false)::e) o.dst v K else pt F.n F.C ((d,.bool false)::e) o.dst undef K)
   |some (.tuple _)=>pt F.n F.C e o.dst undef K
   |_=>no
def zk(F:Fn)(ops:Array Oper):List Oper->(Env->WK)->Env->WK
 |[],K,e=>K e
 |o::r,K,e=>ZX F ops o (zk F ops r K) e
def cls(P:Program)(op:Op):Nat:=
 match op with
 | .move _| .assign _| .pick _ _ _| .nilCheck _| .binOp .. | .unOp .. | .makeFunc .. | .slice .. | .fieldAddr .. | .field .. | .indexAddr .. | .index .. | .extract .. | .build .. =>0
 | .convert _ d _=>match P.underlying d with|some (.int _)=>0|_=>2
 | .load _ _=>1
 | .call c=>match c.callee with
   | .builtin .len=>(match c.argTypes.toList with
     |t::_=>(match P.underlying t with|some (.map _ _)=>2|_=>0)
     |[]=>0)
   | .builtin .min=>0| .builtin .max=>0
   |_=>2
 |_=>2
abbrev Ez:=List (Nat×Addr×LV)
def mw:Ez->WK->WK
 |[],K=>K
 |(_,a,cs)::r,K=>λw=>yU w a cs/\mw r K w
def waits(o:Oper)(i:Nat):Bool:=o.after.any λed=>Region.binds .any ed&&iB ed.on i
def kp(a:Addr)(cs:LV)(K:WK):WK:=λw=>yU w a cs/\K w
def both(X Y:WK):WK:=λw=>X w/\Y w
def stays(o:Oper)(S:Ez):Ez:=S.filter λp=> !waits o p.1
def acf:List Nat->(Nat->WK)->WK
 |[],_=>λ_=>True
 |[i],f=>f i
 |i::r,f=>λw=>f i w/\acf r f w
def quietAt(P:Program)(ops:Array Oper)(i:Nat):Bool:=match ops[i]? with|some o=>Nat.blt (cls P o.op) 2|none=>false
def XK(F:Fn)(e:Env)(i:Nat)(o:Oper)(S:Ez)(K:Ez->VK):WK:=
 match o.op with
 | .load t x=>match ev e x with
   |some (.pointer (some a))=>Ca F.P t a λcs v=>K ((i,a,cs)::S) v
   |_=>no
 |op=>zv F.P F.T F.E e op o.type (K S)
def guarded(ops:Array Oper)(o:Oper)(e:Env)(run skip:Env->WK):WK:=
 match o.guard with
 |none=>run e
 |some (j,want)=>match Sd ops j with
  |none=>no
  |some d=>match lk e d with
   |some (.bool b)=>br b (bif OX true want then run ((d,.bool true)::e) else skip ((d,.bool true)::e))
                     (bif OX false want then run ((d,.bool false)::e) else skip ((d,.bool false)::e))
   |some (.tuple _)=>skip e
   |_=>no
def wx(F:Fn)(ops:Array Oper)(K:Env->WK):Nat->Array Bool->Ez->Env->WK
 |0,listed,_,e=>match Region.ready .any ops listed with|[]=>K e|_=>no
 |f+1,listed,S,e=>match Region.ready .any ops listed with
  |[]=>K e
  |r::rs=>match(r::rs).find? (quietAt F.P ops) with
   |some i=>match ops[i]? with
    |some o=>bif Region.free .any ops listed i then
              guarded ops o e (λe=>XK F e i o S λS v=>pt F.n F.C e o.dst v (wx F ops K f (listed.setIfInBounds i true) S))
               (λe=>pt F.n F.C e o.dst undef (wx F ops K f (listed.setIfInBounds i true) S))
     else no
    |none=>no
   |none=>acf (r::rs) λi=>match ops[i]? with
    |some o=>guarded ops o e (λe=>zv F.P F.T F.E e o.op o.type λv=>mw (stays o S) (pt F.n F.C e o.dst v (wx F ops K f (listed.setIfInBounds i true) (stays o S))))
              (λe=>pt F.n F.C e o.dst undef (wx F ops K f (listed.setIfInBounds i true) S))
    |none=>no
def key:Code->Nat
 | .region i _ _=>i
 | .seq a _=>key a
 | .block _ c=>key c
 | .cond _ a _=>key a
 | .loop c=>key c
 | .scope c=>key c
 |_=>0
def QU:List (Nat×List (Nat×Value))->Nat->Option (List (Nat×Value))
 |[],_=>none
 |(k,l)::r,i=>bif iB k i then some l else QU r i
def xf(e:Env):List (Nat×Value)->Option (LV)
 |[]=>some []
 |(t,z)::r=>match lk e t with
  |some v=>bif fits z v then(match xf e r with|some vs=>some (v::vs)|none=>none) else none
  |none=>none
def Bx:List (Nat×Value)->LV->Env->Env
 |(t,_)::l,v::vs,C=>(t,v)::Bx l vs C
 |_,_,C=>C
def Ra(K:Env->WK)(Q:Exit->Env->WK):Exit->Env->WK
 | .normal,e=>K e
 | .exit i,e=>Q (.exit i) e
 | .goto l,e=>Q (.goto l) e
 | .ret,e=>Q .ret e
 | .panic c,e=>Q (.panic c) e
 | .outgrown,e=>Q .outgrown e
def OU(i:Nat)(Q:Exit->Env->WK):Exit->Env->WK
 | .exit j,e=>bif iB j i then Q .normal e else Q (.exit j) e
 | .normal,e=>Q .normal e
 | .goto l,e=>Q (.goto l) e
 | .ret,e=>Q .ret e
 | .panic c,e=>Q (.panic c) e
 | .outgrown,e=>Q .outgrown e
def UE(l:List (Nat×Value))(I:LV->World->Prop)(μ:LV->World->Nat)(m:Nat)(e:Env):WK:=
 match xf e l with
 |some vs=>λw=>I vs w/\μ vs w<m
 |none=>no
def den(F:Fn):Code->(Exit->Env->WK)->Env->WK
 | .skip,Q,e=>Q .normal e
 | .ret,Q,e=>Q .ret e
 | .exit i,Q,e=>Q (.exit i) e
 | .seq x y,Q,e=>den F x (Ra (den F y Q) Q) e
 | .cond c x y,Q,e=>match ev e c with
   |some (.bool b)=>br b (den F x Q e) (den F y Q e)
   |_=>no
 | .block i c,Q,e=>den F c (OU i Q) e
 | .loop c,Q,e=>match QU F.Kv (key c) with
   |some l=>match xf e l with
    |some vs=>λw=>∃(I:LV->World->Prop)(μ:LV->World->Nat),I vs w/\
               G' (l.map (·.2)) λus=>∀w,I us w->den F c (Ra (UE l I μ (μ us w)) Q) (Bx l us F.C) w
    |none=>no
   |none=>no
 | .region _ ops draw,Q,e=>bif draw then
                            (bif Region.noSelect ops then tick (wx F ops (Q .normal) ops.size (jL ops.size false) [] e) else no)
   else zk F ops ops.toList (Q .normal) e
 |_,_,_=>no
structure Sub(n:Nat)(e:Env)(a:Act):Prop where
 size:a.tmps.size=n
 defers:a.defers=[]
 get:∀t v,lk e t=some v->a.tmps[t]?=some v
def Sub.eval{n:Nat}{e:Env}{a:Act}(h:Sub n e a){x:Operand}{v:Value}(hx:ev e x=some v):a.eval x=v:=by
 cases x with
 |tmp t=>simp only[ev] at hx;simp[Act.eval,h.get t v hx]
 |const u=>simp only[ev] at hx;cases hx;rfl
 |global g=>simp only[ev] at hx;cases hx;rfl
 |func f=>simp only[ev] at hx;cases hx;rfl
def Sub.aaj{n:Nat}{e:Env}{a:Act}(h:Sub n e a):∀{xs:List Operand} {vs:LV},Sg e xs=some vs->xs.map a.eval=vs
 |[],vs,hx=>by simp only[Sg] at hx;cases hx;rfl
 |x::xs,vs,hx=>by
  simp only[Sg] at hx;cases h1:ev e x with
  |none=>simp[h1] at hx
  |some v=>
   cases h2:Sg e xs with
   |none=>simp[h1,h2] at hx
   |some us=>
    simp only[h1,h2,bA.injEq] at hx;subst hx;simp only[dx,h.eval h1,h.aaj h2]
def Sub.Kk{n:Nat}{e:Env}{a:Act}(h:Sub n e a){xs:Array Operand}{vs:LV}(hx:Sg e xs.toList=some vs):xs.map a.eval=⟨vs⟩:=by
 have:=h.aaj hx;rw[<-Array.toList_map] at this;cases hh:xs.map a.eval
 simp only[hh] at this;subst this
 rfl
def Sub.OE{n:Nat}{e:Env}{a:Act}(h:Sub n e a):∀{xs:List (Nat×Operand)} {vs:List (Nat×Value)},Kl e xs=some vs->xs.map (λp=>(p.1,a.eval p.2))=vs
 |[],vs,hx=>by simp only[Kl] at hx;cases hx;rfl
 |(i,x)::xs,vs,hx=>by
  simp only[Kl] at hx;cases h1:ev e x with
  |none=>simp[h1] at hx
  |some v=>
   cases h2:Kl e xs with
   |none=>simp[h1,h2] at hx
   |some us=>
    simp only[h1,h2,bA.injEq] at hx;subst hx;simp only[dx,h.eval h1,h.OE h2]
def yh(e:Env)(d t:Nat)(v:Value):lk ((d,v)::e) t=if d=t then some v else lk e t:=by
 simp only[lk];by_cases h:d=t
 ·subst h;simp
 ·have h':d.beq t=false:=by
   cases hh:d.beq t with
   |true=>exact aT (eS hh) h
   |false=>rfl
  simp[h,h']
def Sub.put{n:Nat}{e:Env}{a:Act}(h:Sub n e a){d:Nat}(hd:d<n)(v:Value):Sub n ((d,v)::e) (a.put (some d) v):=by
 refine⟨by simp[Act.put,h.size],by simp[Act.put,h.defers],λt u ht=>?_⟩;rw[yh] at ht;simp only[Act.put];split at ht
 ·rename_i hdt;subst hdt;cases ht
  rw[Array.getElem?_setIfInBounds_self];simp[h.size,hd]
 ·rename_i hdt;rw[Array.getElem?_setIfInBounds_ne hdt];exact h.get t u ht
def Sub.again{n:Nat}{e:Env}{a:Act}(h:Sub n e a){d:Nat}{v:Value}(hd:lk e d=some v):Sub n ((d,v)::e) a:=by
 refine⟨h.size,h.defers,λt u ht=>?_⟩;rw[yh] at ht;split at ht
 ·rename_i hdt;subst hdt;cases ht;exact h.get _ _ hd
 ·exact h.get t u ht
def To(P:Program)(s:Sem Next)(w:World)(K:VK):Prop:=
 (∃v w',s.run P w=.ok (.value v) w'/\K v w')\/(∃w',s.run P w=.ok .skip w'/\K undef w')\/
 (∃g args w',s.run P w=.ok (.enter g args) w'/\Calls P g args w' λe w''=>∃v,e=.returned v/\K v w'')
def Pure(P:Program)(s:Sem Next)(w:World)(K:VK):Prop:=∃v,(∀w',s.run P w'=.ok (.value v) w')/\K v w
def Pure.toX{P:Program}{s:Sem Next}{w:World}{K:VK}(h:Pure P s w K):To P s w K:=
 let⟨v,hr,hk⟩:=h;.inl ⟨v,w,hr w,hk⟩
def PV(P:Program)(s:Sem Value)(w:World)(K:VK):Prop:=∃v,(∀w',s.run P w'=.ok v w')/\K v w
def PV.pure{P:Program}{s:Sem Value}{w:World}{K:VK}(h:PV P s w K):Pure P (do pure (.value (<-s))) w K:=by
 obtain⟨v,hr,hk⟩:=h;exact⟨v,λw'=>by simp[hr w'],hk⟩
section
variable {P:Program} {K:VK} {w:World}
def gw{t:TypeId}{d:TypeDesc}(h:P.underlying t=some d)(w:World):(underlying t).run P w=.ok d w:=by simp[underlying,h]
def C9{op:BinOp}{k:IntKind}{x y:Int}{t:TypeId}(h:Gv op k x y K w):PV P (binOp op t (.int k x) (.int k y)) w K:=by
 cases op<;>simp only[Gv,cw] at h<;>first
  |exact⟨_,λw'=>by simp[binOp,Op.intArith,Op.intBits,Op.intCmp,dj];done,h⟩
  |(obtain⟨h1,h2⟩:=h
    refine⟨_,λw'=>?_,h2⟩
    simp only[binOp,Op.intDiv,Op.shift,shl,shr,ne_eq,not_true,if_false]
    rw[ag (by omega)]
    rfl)
def Q7{op:BinOp}{x y:BA}{t:TypeId}(h:NS op x y K w):PV P (binOp op t (.string x) (.string y)) w K:=by
 cases op<;>simp only[NS,cw,no] at h
 case add=>
  refine⟨_,λw'=>?_,h.2⟩;have h1: ¬(((x.size+y.size:Nat):Int)>aa.max):=by
   have:=h.1;have e:aa.max=9223372036854775807:=by decide
   rw[e];omega
  simp only[binOp,Op.stringOp];rw[ag h1]
  rfl
 case eql=>exact⟨_,λw'=>rfl,h⟩
 case neq=>exact⟨_,λw'=>rfl,h⟩
def OF{op:BinOp}{t:TypeId}{x y:Operand}{a b:Value}(hn:(a=.nilIface->False))(hg:∀xs ys,a=.agg xs->b=.agg ys->P.eqGuardType P.depth t=false)(w:World):
 (eqGuard op t x y a b).run P w=.ok () w:=by
 cases op<;>try rfl
 all_goals
  cases a<;>cases b<;>first
   |rfl
   |exact(hn rfl).elim
   |(rename_i xs ys
     have:=hg _ _ rfl rfl
     simp[eqGuard,this])
def NZ{t d:TypeId}(h:P.underlying t=some (.pointer d))(p:OA)(w:World):(Op.equal t (.pointer p) (.pointer none)).run P w=.ok p.isNone w:=by
 show(Op.equalIn (9999+1) t _ _).run P w=_;unfold Op.equalIn;cases p<;>simp[underlying,h]
def Re{t d:TypeId}(h:P.underlying t=some (.slice d))(p:OA)(n c m e:Nat)(w:World):(Op.equal t (.slice p n c) (.slice none m e)).run P w=.ok p.isNone w:=by
 show(Op.equalIn (9999+1) t _ _).run P w=_;unfold Op.equalIn;cases p<;>simp[underlying,h]
def Lu{t:TypeId}(h:P.underlying t=some .bool)(a b:Bool)(w:World):(Op.equal t (.bool a) (.bool b)).run P w=.ok (a==b) w:=by
 show(Op.equalIn (9999+1) t _ _).run P w=_;unfold Op.equalIn;simp[underlying,h]
def sj(P:Program)(E:Td):Prop:=∀t zs,GO E t=some zs->P.eqGuardType P.depth t=false/\
 ∀xs ys,oZ zs xs=true->oZ zs ys=true->∀w:World,(Op.equal t (.agg ⟨xs⟩) (.agg ⟨ys⟩)).run P w=.ok (iK xs ys) w
def Sz{E:Td}(hE:sj P E){op:BinOp}{t:TypeId}{x y:Operand}{a b:Value}(h:OV P E op t a b K w):PV P (do eqGuard op t x y a b;binOp op t a b) w K:=by
 have main:(a=.nilIface->False)->(∀xs ys,a=.agg xs->b=.agg ys->P.eqGuardType P.depth t=false)->PV P (binOp op t a b) w K->PV P (do eqGuard op t x y a b;binOp op t a b) w K:=by
  intro h1 h2 ⟨v,hv,hk⟩;refine⟨v,λw'=>?_,hk⟩;rw[Sem.run_bind,OF h1 h2];exact hv w'
 unfold OV at h;split at h
 ·apply main (by simp) (by simp);split at h
  ·exact C9 (t:=t) h
  ·exact C9 (t:=t) h
  ·rename_i k a k' b op' _ _;by_cases hk:k=k'
   ·subst hk;simp only[decide_true,cond_true] at h;exact C9 h
   ·simp[hk,no] at h
 ·exact main (by simp) (by simp) (Q7 h)
 ·apply main (by simp) (by simp);cases hu:P.underlying t with
  |none=>simp only[hu,no] at h
  |some d=>
   cases d<;>cases op<;>simp only[hu,no] at h<;>exact⟨_,λw'=>by simp[binOp,Lu hu],h⟩
 ·apply main (by simp) (by simp);cases hu:P.underlying t with
  |none=>simp only[hu,no] at h
  |some d=>
   cases d<;>cases op<;>simp only[hu,no] at h<;>exact⟨_,λw'=>by simp[binOp,NZ hu],h⟩
 ·apply main (by simp) (by simp);cases hu:P.underlying t with
  |none=>simp only[hu,no] at h
  |some d=>
   cases d<;>cases op<;>simp only[hu,no] at h<;>exact⟨_,λw'=>by simp[binOp,Re hu],h⟩
 ·rename_i xs ys;cases he:GO E t with
  |none=>simp only[he,no] at h
  |some zs=>
   obtain⟨hg,heq⟩:=hE t zs he;cases op<;>simp only[he,no] at h<;>(
    obtain⟨⟨h1,h2⟩,hk⟩:=h
    refine main (by simp) (λ_ _ _ _=>hg) ⟨_,λw'=>?_,hk⟩
    have hr:=heq _ _ h1 h2 w'
    rw[show ∀z:Array Value,(⟨z.toList⟩:Array Value)=z from λz=>rfl,show ∀z:Array Value,(⟨z.toList⟩:Array Value)=z from λz=>rfl] at hr
    simp only[binOp,Sem.run_bind]
    rw[hr];rfl)
 ·exact h.elim
def Tw{op:UnOp}{a:Value}(h:Tx op a K w):PV P (Op.unary op a) w K:=by
 unfold Tx at h;split at h
 ·exact⟨_,λw'=>rfl,h⟩
 ·exact⟨_,λw'=>rfl,h⟩
 ·exact⟨_,λw'=>rfl,h⟩
 ·exact h.elim
def run_convert_int{s d:TypeId}{sd:TypeDesc}{k:IntKind}(hs:P.underlying s=some sd)(hd:P.underlying d=some (.int k))(j:IntKind)(n:Int)(w:World):
 (convert s d (.int j n)).run P w=.ok (.int k (k.wrap n)) w:=by
 simp[convert,underlying,hs,hd,Conv.intToInt]
def run_sliceBound{x:Int}{y:Nat}{code:BoundsCode}(h:0<=x/\x<=y)(k:IntKind)(w:World):(Instr.sliceBound (.int k x) y code).run P w=.ok x.toNat w:=by
 simp[Instr.sliceBound,asIntOf,h.1,h.2]
end
section
variable {P:Program} {K:VK} {w:World}
def BI(v:Option Value)(n:Option Int):Prop:=match v,n with
 |none,none=>True
 |some v,some n=>∃k,v=.int k n
 |_,_=>False
def Sub.WV{n:Nat}{e:Env}{a:Act}(h:Sub n e a){x:Option Operand}{r:Option Int}(hx:WV e x=some r):BI (x.map a.eval) r:=by
 cases x with
 |none=>simp only[Den.WV,bA.injEq] at hx;subst hx;trivial
 |some x=>
  simp only[Den.WV] at hx;cases h1:ev e x with
  |none=>simp[h1] at hx
  |some v=>
   cases v<;>simp[h1] at hx
   subst hx;exact⟨_,by rw[h.eval h1]⟩
def bOk(len cap:Nat)(l h:Option Int):Prop:=match h with
 |none=>(match l with|none=>True|some l=>0<=l/\l<=len)
 |some h=>(0<=h/\h<=cap)/\(match l with|none=>True|some l=>0<=l/\l<=h)
def bL(l:Option Int):Nat:=match l with|none=>0|some l=>l.toNat
def bH(h:Option Int)(len:Nat):Nat:=match h with|none=>len|some h=>h.toNat
def AW(sl:Bool){len cap:Nat}{lo hi:Option Value}{l h:Option Int}(Aj:BI lo l)(y3:BI hi h)
 (ok:bOk len cap l h)(w:World):
 (Instr.sliceBounds sl len cap lo hi none).run P w=.ok (bL l,bH h len,cap) w:=by
 unfold bOk at ok;cases h with
 |none=>
  cases hi with
  |some v=>exact y3.elim
  |none=>
   cases l with
   |none=>
    cases lo with
    |some v=>exact Aj.elim
    |none=>simp[Instr.sliceBounds,bL,bH]
   |some l=>
    cases lo with
    |none=>exact Aj.elim
    |some v=>
     obtain⟨k,rfl⟩:=Aj;simp only at ok;simp[Instr.sliceBounds,bL,bH,run_sliceBound ok]
 |some h=>
  cases hi with
  |none=>exact y3.elim
  |some v=>
   obtain⟨k,rfl⟩:=y3;simp only at ok;obtain⟨ok1,ZY⟩:=ok;cases l with
   |none=>
    cases lo with
    |some v=>exact Aj.elim
    |none=>simp[Instr.sliceBounds,bL,bH,run_sliceBound ok1]
   |some l=>
    cases lo with
    |none=>exact Aj.elim
    |some v=>
     obtain⟨k,rfl⟩:=Aj;have ok3:0<=l/\l<=(h.toNat:Nat):=⟨ZY.1,by have:=ZY.2;omega⟩;simp[Instr.sliceBounds,bL,bH,run_sliceBound ok1,run_sliceBound ok3]
def Q'{s:BA}{l h:Option Int}{K:BA->WK}(hh:mT s l h K w):
 bOk s.size s.size l h/\K (s.extract (bL l) (bH h s.size)) w:=by
 unfold bOk bL bH;unfold mT cw at hh;cases h<;>cases l<;>simp only at hh⊢
 ·exact⟨trivial,hh⟩
 ·exact hh
 ·exact⟨⟨hh.1,trivial⟩,hh.2⟩
 ·exact⟨⟨hh.1,hh.2.1⟩,hh.2.2⟩
def Lp{b:OA}{len cap size:Nat}{l h:Option Int}{K:OA->Nat->Nat->WK}(hh:tf b len cap size l h K w):
 bOk len cap l h/\K (zi b cap (bL l) size) (bH h len-bL l) (cap-bL l) w:=by
 unfold bOk bL bH;unfold tf cw at hh;cases h<;>cases l<;>simp only at hh⊢
 ·exact⟨trivial,hh⟩
 ·exact hh
 ·exact⟨⟨hh.1,trivial⟩,hh.2⟩
 ·exact⟨⟨hh.1,hh.2.1⟩,hh.2.2⟩
def run_sizeOf{t:TypeId}{i:TypeInfo}(h:P.info? t=some i)(w:World):(sizeOf t).run P w=.ok i.size w:=by simp[sizeOf,typeInfo,h]
def Lo{t:TypeId}{x:Value}{lo hi:Option Value}{l h:Option Int}(Aj:BI lo l)(y3:BI hi h)(hh:FH P t x l h K w):
 PV P (Instr.sliceAt t x lo hi none) w K:=by
 unfold FH at hh;generalize hu:P.underlying t=u at hh;split at hh
 ·rename_i s;obtain⟨h1,h2⟩:=Q' hh;refine⟨_,λw'=>?_,h2⟩;simp[Instr.sliceAt,Instr.slice,underlying,hu,AW false Aj y3 h1]
 ·rename_i e b n c;cases vV:P.info? e with
  |none=>simp only[vV,no] at hh
  |some i=>
   simp only[vV] at hh;obtain⟨h1,h2⟩:=Lp hh;refine⟨_,λw'=>?_,h2⟩;simp only[Instr.sliceAt,Instr.slice,Sem.run_bind,gw hu,Result.andThen_ok,AW true Aj y3 h1,run_sizeOf vV,Sem.run_pure,zi]
 ·rename_i n e a;cases vV:P.info? e with
  |none=>simp only[vV,no] at hh
  |some i=>
   simp only[vV] at hh;obtain⟨h1,h2⟩:=Lp hh;refine⟨_,λw'=>?_,h2⟩;simp only[Instr.sliceAt,Sem.run_bind,gw hu,Result.andThen_ok,Instr.sureAddr,Sem.run_pure,AW false Aj y3 h1,run_sizeOf vV,zi];split<;>rfl
 ·exact hh.elim
def tO{z v:Value}{K:VK}(h:Ng z K v w):K v w:=by
 unfold Ng at h;split at h
 ·obtain⟨n,rfl,h⟩:=h;exact h
 ·obtain⟨n,rfl,h⟩:=h;exact h
 ·obtain⟨n,rfl,h⟩:=h;exact h
 ·obtain⟨n,rfl,h⟩:=h;exact h
 ·obtain⟨b,n,c,rfl,h⟩:=h;exact h
 ·obtain⟨cs,rfl,_,h⟩:=h;exact h
 ·exact h
def Tg{z v:Value}{K:VK}(h:xT z K v w):K v w:=by
 unfold xT at h;split at h
 ·rename_i zs;generalize hz:zs.toList=l at h;split at h
  ·obtain⟨rfl,h⟩:=h;exact h
  ·obtain⟨a,b,rfl,h⟩:=h;have h1:=tO (K:=λa=>Ng _ (λb=>K (Value.tuple ⟨[a,b]⟩)) b) h;exact tO (K:=λb=>K (Value.tuple ⟨[a,b]⟩)) h1
  ·obtain⟨a,b,c,rfl,h⟩:=h;have h1:=tO (K:=λa=>Ng _ (λb=>Ng _ (λc=>K (Value.tuple ⟨[a,b,c]⟩)) c) b) h;have h2:=tO (K:=λb=>Ng _ (λc=>K (Value.tuple ⟨[a,b,c]⟩)) c) h1;exact tO (K:=λc=>K (Value.tuple ⟨[a,b,c]⟩)) h2
  ·exact h.elim
 ·exact tO h
def Er{t:TypeId}{x i:Value}(hh:yo P t x i K w):PV P (Instr.indexAt t x i) w K:=by
 unfold yo at hh;generalize hu:P.underlying t=u at hh;split at hh
 ·rename_i e b n c k j;cases vV:P.info? e with
  |none=>simp only[vV,no] at hh
  |some i=>
   simp only[vV] at hh;obtain⟨a,rfl,hb,hk⟩:=hh;refine⟨_,λw'=>?_,hk⟩;simp[Instr.indexAt,asIntOf,hb.1,hb.2,Sem.run_bind,underlying,hu,sizeOf,typeInfo,vV]
 ·rename_i n e a k j;cases vV:P.info? e with
  |none=>simp only[vV,no] at hh
  |some i=>
   simp only[vV] at hh;obtain⟨hb,hk⟩:=hh;refine⟨_,λw'=>?_,hk⟩;simp[Instr.indexAt,asIntOf,hb.1,hb.2,Sem.run_bind,underlying,hu,sizeOf,typeInfo,vV,Instr.sureAddr]
 ·exact hh.elim
def yn{t:TypeId}{d:TypeDesc}(h:P.underlying t=some d)(w:World):(isAgg t).run P w=.ok (uI d) w:=by
 simp only[isAgg,Sem.run_bind,gw h,Result.andThen_ok,uI];split<;>simp_all
def BP{t:TypeId}{d:TypeDesc}{i:TypeInfo}(h:P.underlying t=some d)(hi:P.info? t=some i)(ha:uI d=true)(cs:Array Value)(off:Nat)(w:World):
 (part t cs off).run P w=.ok (.agg ⟨(cs.toList.drop off).take i.size⟩) w:=by
 simp only[part,Sem.run_bind,yn h,Result.andThen_ok,ha,if_true,run_sizeOf hi,Sem.run_pure]
 congr 3
 apply tt;simp[List.take_drop]
def BO{t:TypeId}{d:TypeDesc}(h:P.underlying t=some d)(ha:uI d=false){cs:Array Value}{off:Nat}{v:Value}(hv:cs.toList[off]?=some v)(w:World):
 (part t cs off).run P w=.ok v w:=by
 have DR:cs[off]?=some v:=by simpa using hv
 simp[part,yn h,ha,DR]
def Ry(s:BA)(n:Nat):s[n]?=s.data.toList[n]?:=by
 by_cases h:n<s.size
 ·rw[getElem?_pos s n h];have h2:n<s.data.toList.length:=by simpa using h
  rw[aj h2];simp[ByteArray.getElem_eq_getElem_data]
 ·rw[getElem?_neg s n h];rw[qu];simp only[Array.length_toList];have:s.data.size=s.size:=rfl;omega
def Mf{t:TypeId}{x i:Value}(hh:Gw P t x i K w):PV P (Instr.index t x i) w K:=by
 unfold Gw at hh;generalize hu:P.underlying t=u at hh;split at hh
 ·rename_i s k j;obtain⟨c,⟨h0,hc⟩,hk⟩:=hh;refine⟨_,λw'=>?_,hk⟩;have Mu:s[j.toNat]?=some c:=by rw[Ry];exact hc
  simp[Instr.index,asIntOf,underlying,hu,h0,Mu]
 ·rename_i n e cs k j;cases hd:P.underlying e with
  |none=>simp only[hd,no] at hh
  |some d=>
   cases vV:P.info? e with
   |none=>simp only[hd,vV,no] at hh
   |some i=>
    simp only[hd,vV] at hh;cases ha:uI d with
    |true=>
     simp only[ha,cond_true] at hh;obtain⟨hb,hk⟩:=hh;refine⟨_,λw'=>?_,hk⟩;simp[Instr.index,asIntOf,gw hu,hb.1,hb.2,run_sizeOf vV,BP hd vV ha]
    |false=>
     simp only[ha,cond_false] at hh;cases hs:iB i.size 1 with
     |false=>simp[hs,no] at hh
     |true=>
      have fF:i.size=1:=eS hs;simp only[hs,cond_true] at hh;cases hz:i.zero with
      |none=>simp only[hz,no] at hh
      |some z=>
       simp only[hz] at hh;obtain⟨v,⟨h0,h1,hv⟩,hk⟩:=hh;refine⟨v,λw'=>?_,tO hk⟩;simp[Instr.index,asIntOf,gw hu,h0,h1,run_sizeOf vV,fF,BO hd ha hv]
 ·exact hh.elim
def Mz{t:TypeId}{x:Value}{f:Nat}(hh:GM P t x f K w):PV P (Instr.field t x f) w K:=by
 unfold GM at hh;generalize hu:P.underlying t=u at hh;split at hh
 ·rename_i fs cs;cases hf:fs[f]? with
  |none=>simp only[hf,no] at hh
  |some fl=>
   simp only[hf] at hh;cases hd:P.underlying fl.type with
   |none=>simp only[hd,no] at hh
   |some d=>
    cases vV:P.info? fl.type with
    |none=>simp only[hd,vV,no] at hh
    |some i=>
     simp only[hd,vV] at hh;cases ha:uI d with
     |true=>
      simp only[ha,cond_true] at hh;refine⟨_,λw'=>?_,hh⟩;simp[Instr.field,gw hu,hf,asAgg,BP hd vV ha]
     |false=>
      simp only[ha,cond_false] at hh;cases hz:i.zero with
      |none=>simp only[hz,no] at hh
      |some z=>
       simp only[hz] at hh;obtain⟨v,hv,hk⟩:=hh;refine⟨v,λw'=>?_,tO hk⟩;simp[Instr.field,gw hu,hf,asAgg,BO hd ha hv]
 ·exact hh.elim
def Ev{t:TypeId}{x:Value}{f:Nat}(hh:yw P t x f K w):PV P (Instr.fieldAt t x f) w K:=by
 unfold yw at hh;generalize hu:P.underlying t=u at hh;split at hh
 ·rename_i fs a;cases hf:fs[f]? with
  |none=>simp only[hf,no] at hh
  |some fl=>
   simp only[hf] at hh;cases vV:P.info? fl.type with
   |none=>simp only[vV,no] at hh
   |some i=>
    simp only[vV] at hh;cases hs:iB i.size 0 with
    |true=>simp[hs,no] at hh
    |false=>
     have fF:i.size≠0:=λh=>by simp[h] at hs
     simp only[hs,cond_false] at hh;refine⟨_,λw'=>?_,hh⟩;simp[Instr.fieldAt,gw hu,hf,Instr.sureAddr,fieldPlace,run_sizeOf vV,fF]
 ·exact hh.elim
def IS{t ty:TypeId}{ts:Array TypeId}{x:Value}(ht:ts.toList=[t]\/∃r,ts.toList=t::r)(hh:Gn P t x K w):PV P (Builtin.len_ ts ty #[x]) w K:=by
 have h0:ts[0]?=some t:=by
  cases ts
  rcases ht with h|⟨r,h⟩<;>simp only at h<;>subst h<;>rfl
 unfold Gn at hh;generalize hu:P.underlying t=u at hh;split at hh
 ·exact⟨_,λw'=>by simp[Builtin.len_,h0,gw hu,goInt],hh⟩
 ·exact⟨_,λw'=>by simp[Builtin.len_,h0,gw hu,goInt],hh⟩
 ·exact⟨_,λw'=>by simp[Builtin.len_,h0,gw hu,goInt],hh⟩
 ·exact hh.elim
def C6{k:IntKind}:∀{x:Int} {l:LV} {m:Int},ru x l=some m->∀w:World,(l.foldlM Builtin.min2 (.int k x)).run P w=.ok (.int k m) w
 |x,[],m,h,w=>by simp only[ru,bA.injEq] at h;subst h;rfl
 |x,.int j y::r,m,h,w=>by
  simp only[ru] at h;have:=C6 (k:=k) h w;simp only[List.foldlM_cons,Sem.run_bind,Builtin.min2,Sem.run_pure,Result.andThen_ok];exact this
 |x,.bool _::_,m,h,w=>by simp[ru] at h
 |x,.float _ _::_,m,h,w=>by simp[ru] at h
 |x,.complex _ _ _::_,m,h,w=>by simp[ru] at h
 |x,.string _::_,m,h,w=>by simp[ru] at h
 |x,.pointer _::_,m,h,w=>by simp[ru] at h
 |x,.slice _ _ _::_,m,h,w=>by simp[ru] at h
 |x,.map _::_,m,h,w=>by simp[ru] at h
 |x,.chan _::_,m,h,w=>by simp[ru] at h
 |x,.func _ _ _::_,m,h,w=>by simp[ru] at h
 |x,.nilFunc::_,m,h,w=>by simp[ru] at h
 |x,.iface _ _::_,m,h,w=>by simp[ru] at h
 |x,.nilIface::_,m,h,w=>by simp[ru] at h
 |x,.agg _::_,m,h,w=>by simp[ru] at h
 |x,.tuple _::_,m,h,w=>by simp[ru] at h
def IN{k:IntKind}:∀{l:LV} {x:Int} {m:Int},Gm x l=some m->∀w:World,(l.foldlM Builtin.max2 (.int k x)).run P w=.ok (.int k m) w:=by
 intro l
 induction l with
 |nil=>intro x m h w;simp only[Gm,bA.injEq] at h;subst h;rfl
 |cons v r ih=>
  intro x m h w;cases v<;>simp only[Gm,reduceCtorEq] at h
  rename_i j y;simp only[List.foldlM_cons,Sem.run_bind,Builtin.max2,Sem.run_pure,Result.andThen_ok];exact ih h w
end
section
variable {P:Program} {K:VK} {w:World}
def lA(v:Value):v.cells.toList=fE v:=by cases v<;>rfl
def Jg:∀(cs:LV)(A B C:LV)(k off:Nat),A.length=off+k->B.length=cs.length->
 (cs.zipIdx k).foldl (λ(z:Array Value)(p:Value×Nat)=>z.setIfInBounds (off+p.2) p.1) ⟨A++B++C⟩=⟨A++cs++C⟩
 |[],A,B,C,k,off,h1,h2=>by
  have:B=[]:=List.eq_nil_of_length_eq_zero h2;subst this;rfl
 |c::cs,A,B,C,k,off,h1,h2=>by
  cases B with
  |nil=>simp at h2
  |cons b B=>
   simp only[List.zipIdx_cons,List.foldl_cons];have e:(⟨A++(b::B)++C⟩:Array Value).setIfInBounds (off+k) c=⟨(A++[c])++B++C⟩:=by
    apply tt;rw[Array.toList_setIfInBounds];simp only[aH,lY,cQ];rw[<-h1,List.set_append];simp
   rw[e,Jg cs (A++[c]) B C (k+1) off (by simp;omega) (by simpa using h2)];simp
def Sf(A B C:LV)(v:Value)(off:Nat)(h1:A.length=off)(h2:B.length=(fE v).length):
 v.cells.zipIdx.foldl (λ(z:Array Value)(p:Value×Nat)=>z.setIfInBounds (off+p.2) p.1) ⟨A++B++C⟩=⟨A++fE v++C⟩:=by
 rw[<-Array.foldl_toList,Array.toList_zipIdx,lA];exact Jg (fE v) A B C 0 off (by omega) h2
def xE(PL:List (Nat×Nat))(place:Nat->Option (Nat×Nat))(hp:∀j x,PL[j]?=some x->place j=some x)(zero:LV):
 ∀(fs:List (Nat×Nat))(at_ i:Nat)(done:LV)(ps:List (Nat×Value))(r:LV)(p:Prop),fs=PL.drop i->done.length=at_->at_<=zero.length->
  vM zero fs at_ i (ps.map λq=>(q.1,fE q.2))=some (r,p)->p->
  Instr.fill place ⟨done++zero.drop at_⟩ ps=some ⟨done++r⟩
 |[],at_,i,done,ps,r,p,Cj,hd,hz,h,UU=>by
  simp only[vM] at h;cases hb:iB at_ zero.length with
  |false=>simp[hb] at h
  |true=>
   simp only[hb,cond_true] at h;have he:=eS hb;cases ps with
   |nil=>
    simp only[ou,bA.injEq,Prod.mk.injEq] at h;obtain⟨rfl,_⟩:=h;simp[Instr.fill,he]
   |cons q ps=>simp at h
 |(off,n)::fs,at_,i,done,ps,r,p,Cj,hd,hz,h,UU=>by
  simp only[vM] at h;have hPL:PL[i]?=some (off,n):=by
   have:(PL.drop i)[0]?=some (off,n):=by rw[<-Cj];rfl
   simpa using this
  have adF:fs=PL.drop (i+1):=by
   have:(PL.drop i).tail=fs:=by rw[<-Cj];rfl
   rw[<-this,List.tail_drop]
  cases hb:iB off at_ with
  |false=>simp[hb] at h
  |true=>
   simp only[hb,cond_true] at h;have he:=eS hb;subst he;have skip:∀r',vM zero fs (off+n) (i+1) (ps.map λq=>(q.1,fE q.2))=some (r',p)->r=(zero.drop off).take n++r'->off+n<=zero.length->Instr.fill place ⟨done++zero.drop off⟩ ps=some ⟨done++r⟩:=by
    intro r' h' hr hle;have:=xE PL place hp zero fs (off+n) (i+1) (done++(zero.drop off).take n) ps r' p adF (by simp;omega) hle h' UU;rw[aH,aH] at this;rw[<-hr] at this;rw[<-this]
    congr 3
    rw[<-jX,dy]
   have bound:∀(fs:List (Nat×Nat))(a i:Nat)(qs:List (Nat×LV))(x:LV×Prop),vM zero fs a i qs=some x->a<=zero.length:=by
    intro fs
    induction fs with
    |nil=>
     intro a i qs x hx;simp only[vM] at hx;cases hb:iB a zero.length with
     |false=>simp[hb] at hx
     |true=>exact Nat.le_of_eq (eS hb)
    |cons f fs ih=>
     intro a i qs x hx;obtain⟨o,m⟩:=f;simp only[vM] at hx;cases hb:iB o a with
     |false=>simp[hb] at hx
     |true=>
      simp only[hb,cond_true] at hx;have key:∀qs',(∃y,vM zero fs (a+m) (i+1) qs'=some y)->a<=zero.length:=λqs' ⟨y,hy⟩=>by have:=ih _ _ _ _ hy;omega
      cases qs with
      |nil=>
       cases hc:vM zero fs (a+m) (i+1) [] with
       |none=>simp[hc] at hx
       |some y=>exact key _ ⟨y,hc⟩
      |cons q qs=>
       obtain⟨j,cs⟩:=q;cases hj:iB i j with
       |true=>
        simp only[hj,cond_true] at hx;cases hc:vM zero fs (a+m) (i+1) qs with
        |none=>simp[hc] at hx
        |some y=>exact key _ ⟨y,hc⟩
       |false=>
        simp only[hj,cond_false] at hx;cases hc:vM zero fs (a+m) (i+1) ((j,cs)::qs) with
        |none=>simp[hc] at hx
        |some y=>exact key _ ⟨y,hc⟩
   cases ps with
   |nil=>
    simp only[ou] at h skip;cases hc:vM zero fs (off+n) (i+1) [] with
    |none=>simp[hc] at h
    |some y=>
     obtain⟨r',p'⟩:=y;simp only[hc,bA.injEq,Prod.mk.injEq] at h;obtain⟨h1,h2⟩:=h;subst h2;exact skip r' hc h1.symm (bound _ _ _ _ _ hc)
   |cons q ps=>
    obtain⟨j,v⟩:=q;simp only[dx] at h skip;cases hj:iB i j with
    |true=>
     simp only[hj,cond_true] at h;have Nr:=eS hj;subst Nr;cases hc:vM zero fs (off+n) (i+1) (ps.map λq=>(q.1,fE q.2)) with
     |none=>simp[hc] at h
     |some y=>
      obtain⟨r',p'⟩:=y;simp only[hc,bA.injEq,Prod.mk.injEq] at h;obtain⟨h1,h2⟩:=h;subst h2;obtain⟨hlen,hp'⟩:=UU;have hle:=bound _ _ _ _ _ hc;have:=xE PL place hp zero fs (off+n) (i+1) (done++fE v) ps r' p' adF (by simp;omega) hle hc hp';rw[aH,aH,h1] at this;simp only[Instr.fill,hp i _ hPL];have qc:v.cells.size=n:=by rw[<-hlen,<-lA];simp
      have Nn: ¬((decide (v.cells.size≠n)||decide (off+v.cells.size>(⟨done++zero.drop off⟩:Array Value).size))=true):=by
       simp[qc];omega
      rw[ag Nn];have e:(⟨done++zero.drop off⟩:Array Value)=⟨done++(zero.drop off).take n++zero.drop (off+n)⟩:=by
       rw[aH,<-jX,dy]
      rw[e,Sf done ((zero.drop off).take n) (zero.drop (off+n)) v off hd (by simp[hlen];omega)];rw[<-this,aH]
    |false=>
     simp only[hj,cond_false] at h;cases hc:vM zero fs (off+n) (i+1) ((j,fE v)::ps.map λq=>(q.1,fE q.2)) with
     |none=>simp[hc] at h
     |some y=>
      obtain⟨r',p'⟩:=y;simp only[hc,bA.injEq,Prod.mk.injEq] at h;obtain⟨h1,h2⟩:=h;subst h2;exact skip r' hc h1.symm (bound _ _ _ _ _ hc)
end
section
variable {P:Program} {K:VK} {w:World}
def Ga(f:Field):Sem (Nat×Nat):=do pure (f.offset,<-sizeOf f.type)
def B1:∀{fs:List Field} {pl:List (Nat×Nat)},yd P fs=some pl->∀w,(fs.mapM Ga).run P w=.ok pl w
 |[],pl,h,w=>by simp only[yd,bA.injEq] at h;subst h;rfl
 |f::fs,pl,h,w=>by
  simp only[yd] at h;cases hi:P.info? f.type with
  |none=>simp[hi] at h
  |some i=>
   cases hr:yd P fs with
   |none=>simp[hi,hr] at h
   |some r=>
    simp only[hi,hr,bA.injEq] at h;subst h;have h1:(Ga f).run P w=.ok (f.offset,i.size) w:=by simp[Ga,run_sizeOf hi]
    rw[List.mapM_cons,Sem.run_bind,h1,Result.andThen_ok,Sem.run_bind,B1 hr w];rfl
def xY{t:TypeId}{z:Value}(h:zeroOf P t=some z)(w:World):(zeroValue t).run P w=.ok z w:=by
 unfold zeroOf at h;cases hi:P.info? t with
 |none=>simp[hi] at h
 |some i=>
  simp only[hi] at h;simp[zeroValue,typeInfo,hi,h]
def MV{t:TypeId}{ps:List (Nat×Value)}(hh:G2 P t ps K w):PV P (Instr.build t ⟨ps⟩) w K:=by
 unfold G2 at hh;generalize hz:zeroOf P t=z at hh;generalize hu:P.underlying t=u at hh;split at hh
 ·rename_i z fs;cases hp:yd P fs.toList with
  |none=>simp only[hp,no] at hh
  |some pl=>
   simp only[hp] at hh;cases hc:vM z.toList pl 0 0 (ps.map λp=>(p.1,fE p.2)) with
   |none=>simp only[hc,no] at hh
   |some y=>
    obtain⟨cs,p⟩:=y;simp only[hc] at hh;obtain⟨UU,hk⟩:=hh;refine⟨_,λw'=>?_,hk⟩;have hm:(fs.mapM Ga).run P w'=.ok ⟨pl⟩ w':=by
     rw[<-Array.toArray_toList (xs:=fs),List.mapM_toArray,Sem.run_map,B1 hp w'];rfl
    have hf:=xE pl ((⟨pl⟩:Array (Nat×Nat))[·]?) (λj x hx=>by simpa using hx) z.toList pl 0 0 [] ps cs p rfl rfl (aF _) hc UU;simp only[cQ,jf] at hf;simp only[Instr.build,Sem.run_bind,xY hz,Result.andThen_ok,gw hu,Value.cells];rw[show(fs.mapM λf=>(do let a<-sizeOf f.type;pure (f.offset,a):Sem (Nat×Nat)))=fs.mapM Ga from rfl,hm];simp only[Result.andThen_ok];rw[hf];rfl
 ·rename_i z n e;cases hi:P.info? e with
  |none=>simp only[hi,no] at hh
  |some i=>
   simp only[hi] at hh;cases hc:vM z.toList ((qk n).map λj=>(j* i.size,i.size)) 0 0 (ps.map λp=>(p.1,fE p.2)) with
   |none=>simp only[hc,no] at hh
   |some y=>
    obtain⟨cs,p⟩:=y;simp only[hc] at hh;obtain⟨UU,hk⟩:=hh;refine⟨_,λw'=>?_,hk⟩;have hf:=xE ((qk n).map λj=>(j* i.size,i.size)) (λj=>some (j* i.size,i.size)) (λj x hx=>by
     rw[fy] at hx
     cases hr:(qk n)[j]? with
     |none=>simp[hr] at hx
     |some m=>
      have:m=j:=by
       rw[rL] at hr
       ·exact(bA.inj hr).symm
       ·have:=(ar.1 hr).1;simpa using this
      subst this;simpa [hr] using hx) z.toList _ 0 0 [] ps cs p rfl rfl (aF _) hc UU
    simp only[cQ,jf] at hf;simp only[Instr.build,Sem.run_bind,xY hz,Result.andThen_ok,gw hu,Value.cells,run_sizeOf hi];rw[hf];rfl
 ·exact hh.elim
def yg{t:TypeId}{a:Addr}{K:LV->VK}(hh:Ca P t a K w):
 ∃v cs,yU w a cs/\(∀w',yU w' a cs->(loadVar t a).run P w'=.ok v w')/\K cs v w:=by
 unfold Ca at hh;cases hu:P.underlying t with
 |none=>simp only[hu,no] at hh
 |some d=>
  cases hi:P.info? t with
  |none=>simp only[hu,hi,no] at hh
  |some i=>
   simp only[hu,hi] at hh;cases ha:uI d with
   |true=>
    simp only[ha,cond_true] at hh;obtain⟨cs,hl,hH,hk⟩:=hh;refine⟨_,cs,hH,λw' hH'=>?_,hk⟩;simp only[loadVar,Sem.run_bind,yn hu,Result.andThen_ok,ha,if_true,run_sizeOf hi];rw[<-hl,run_loadCells_list w' a cs hH'];rfl
   |false=>
    simp only[ha,cond_false] at hh;cases hz:i.zero with
    |none=>simp only[hz,no] at hh
    |some z=>
     simp only[hz] at hh;obtain⟨v,hc,hk⟩:=hh;have a0:a.add 0=a:=by simp[Addr.add]
     refine⟨v,[v],λj u hj=>?_,λw' hH'=>?_,tO (K:=λv=>K [v] v) hk⟩
     ·cases j with
      |zero=>simp only[H',bA.injEq] at hj;subst hj;rw[a0];exact hc
      |succ j=>simp at hj
     ·have:=hH' 0 v rfl;rw[a0] at this;simp only[loadVar,Sem.run_bind,yn hu,Result.andThen_ok,ha,cM,if_false,run_load,this]
def VE{a b:Addr}{v:Value}(h:∃o,w.cell? b=some o):∃o,(w.setCell a v).cell? b=some o:=by
 obtain⟨o,h⟩:=h;by_cases WS:a=b
 ·subst WS;exact⟨v,World.cell?_setCell_same w a v h⟩
 ·exact⟨o,by rw[World.cell?_setCell_other w a b v WS];exact h⟩
def yI.tail{a:Addr}{i:Nat}{v:Value}{cs:LV}(h:yI w a i (v::cs)):yI (w.setCell (a.add i) v) a (i+1) cs:=by
 refine⟨λu hu=>h.1 u (jV _ hu),λj hj=>?_⟩;have:=h.2 (j+1) (by simp;omega);rw[show i+1+j=i+(j+1) from by omega];exact⟨VE this.1,by rw[World.frozen?_setCell];exact this.2⟩
def xg:∀(cs:LV)(a:Addr)(i:Nat)(w:World),yI w a i cs->(storeCells a cs i).run P w=.ok () (AT w a i cs)
 |[],a,i,w,h=>rfl
 |v::cs,a,i,w,h=>by
  have h0:=h.2 0 (by simp);obtain⟨⟨o,ho⟩,hf⟩:=h0;simp only[gM] at ho hf;simp only[storeCells,Sem.run_bind,run_store P w (a.add i) v .plain (h.1 v (by simp)),ho,hf,AT];exact xg cs a (i+1) _ h.tail
def Hx{t:TypeId}{a:Addr}{v:Value}(hh:FE P t a v K w):∃w',(storeVar t a v).run P w=.ok () w'/\K undef w':=by
 unfold FE at hh;cases hi:P.info? t with
 |none=>simp only[hi,no] at hh
 |some i=>
  simp only[hi] at hh;have one:v.cells.toList=[v]->(bif iB i.size 1 then st a v (K undef) else no) w->∃w',(storeVar t a v).run P w=.ok () w'/\K undef w':=by
   intro hv hh;cases hs:iB i.size 1 with
   |false=>simp[hs,no] at hh
   |true=>
    have fF:i.size=1:=eS hs;simp only[hs,cond_true] at hh;obtain⟨h1,⟨o,ho⟩,hf,hk⟩:=hh;have a0:a.add 0=a:=by simp[Addr.add]
    refine⟨_,?_,hk⟩;have qc:v.cells.size=1:=by rw[<-Array.length_toList,hv];rfl
    simp only[storeVar,Sem.run_bind,run_sizeOf hi,Result.andThen_ok,fF,qc,ne_eq,not_true,if_false,hv];have:=xg (P:=P) [v] a 0 w ⟨λu hu=>by simp at hu;subst hu;exact h1,λj hj=>by simp at hj;subst hj;simp only[gM,a0];exact⟨⟨o,ho⟩,hf⟩⟩;simp only[AT,a0] at this;exact this
  split at hh
  ·rename_i cs;obtain⟨hl,hc,hk⟩:=hh;refine⟨_,?_,hk⟩;have Np:cs.size=i.size:=by simpa using hl
   simp only[storeVar,Sem.run_bind,run_sizeOf hi,Result.andThen_ok,Value.cells,Np,ne_eq,not_true,if_false];exact xg _ _ _ _ hc
  ·rename_i hv;refine one ?_ hh;cases v<;>first|rfl|exact aT rfl (hv _)
end
section
variable {P:Program} {K:VK} {w:World}
def SV(P:Program)(s:Sem Value)(w:World)(K:VK):Prop:=∃v w',s.run P w=.ok v w'/\K v w'
def SV.toX{s:Sem Value}(h:SV P s w K):To P (do pure (.value (<-s))) w K:=by
 obtain⟨v,w',hr,hk⟩:=h;exact .inl ⟨v,w',by simp[hr],hk⟩
def PV.sv{s:Sem Value}(h:PV P s w K):SV P s w K:=let⟨v,hr,hk⟩:=h;⟨v,w,hr w,hk⟩
def ac8{cs:LV}{t:TypeId}(h:mk cs (λr=>K (B0 r)) w)(v:Value)(hv:fE v=cs):SV P (Instr.box t v) w K:=by
 refine⟨_,_,?_,h t⟩;have:v.cells=⟨cs⟩:=by rw[<-hv,<-lA]
 simp[Instr.box,newVar,newRow,this,B0]
def VT{t:TypeId}{z:Value}(hz:zeroOf P t=some z)(h:mk (fE z) (λr=>K (B0 r)) w):SV P (Instr.alloc t true (.tuple #[])) w K:=by
 refine⟨_,_,?_,h t⟩;have:z.cells=⟨fE z⟩:=by rw[<-lA]
 simp[Instr.alloc,xY hz,newVar,newRow,this,B0]
def SB{t:TypeId}{z:Value}(hz:zeroOf P t=some z)(h:mkT t (fE z) (λr=>K (B0 r)) w):SV P (Instr.alloc t true (.tuple #[])) w K:=by
 refine⟨_,_,?_,h⟩;have:z.cells=⟨fE z⟩:=by rw[<-lA]
 simp[Instr.alloc,xY hz,newVar,newRow,this,B0]
def vx{n size len cap:Nat}{b:OA}{cs:LV}(h:Src w n size b cs)(hb:b=none->n=0):
 (Builtin.firstCells size n (.slice b len cap)).run P w=.ok ⟨cs⟩ w:=by
 cases b with
 |none=>
  have h0:=hb rfl;subst h0;have hl:=h.1;simp at hl;subst hl;exact run_firstCells_none (P:=P) w size 0 len cap
 |some a=>exact run_firstCells_some (P:=P) w size n a len cap cs h.1 (h.2 a rfl)
def AV{s:BA}(size:Nat):(Builtin.firstCells size s.size (.string s)).run P w=.ok ⟨strCells s⟩ w:=by
 have e:s.extract 0 s.size=s:=by simp
 simp only[Builtin.firstCells,e,Sem.run_pure,strCells]
 congr 1
 apply tt;simp
def Kq{ac4 old:Nat}{el:TypeId}(t:Nat):ac4<=(Question.appendCap ac4 old el).cut t:=by
 simp only[Question.cut];omega
def M3{size bytes:Nat}{z:Value}{b:OA}{len cap n:Nat}{new:LV}{K:OA->Nat->Nat->WK}{t u ty e:TypeId}{i:TypeInfo}{du:TypeDesc}{x:Value}
 (h:Zg size bytes (fE z) b len cap n new K w)(ht:P.underlying t=some (.slice e))(hu:P.underlying u=some du)(hdu:∀k,du≠.int k)(hi:P.info? e=some i)(hs:i.size=size)(Qy:i.bytes=bytes)(hz:i.zero=some z)
 (hlen:(Builtin.lenOf x).run P w=.ok n w)(zC:∀w',(∀a,w'.cell? a=w.cell? a)->(Builtin.firstCells size n x).run P w'=.ok ⟨new⟩ w'):
 ∃b' n' c' w',(Builtin.append_ #[t,u] ty #[.slice b len cap,x]).run P w=.ok (.slice b' n' c') w'/\K b' n' c' w':=by
 subst hs Qy;have hz':z.cells=⟨fE z⟩:=by rw[<-lA]
 have hnz:(match du with| .int _=>true|_=>false)=false:=by cases du<;>first|rfl|exact aT rfl (hdu _)
 by_cases hle:len+n<=cap
 ·obtain⟨h1,h2⟩:=h.1 hle;cases b with
  |none=>
   refine⟨_,_,_,_,?_,h2 rfl⟩;simp only[Builtin.append_,List.getElem?_toArray,H',bX,Sem.run_bind,gw ht,gw hu,run_sizeOf hi,Result.andThen_ok,Sem.run_pure,cM,if_false,hlen,Pd,if_true,hle,zC w (λ_=>rfl)]
  |some a=>
   obtain⟨hc,hk⟩:=h1 a rfl;refine⟨_,_,_,_,?_,hk⟩;simp only[Builtin.append_,List.getElem?_toArray,H',bX,Sem.run_bind,gw ht,gw hu,run_sizeOf hi,Result.andThen_ok,Sem.run_pure,cM,if_false,hlen,Pd,if_true,hle,zC w (λ_=>rfl),xg _ _ _ _ hc]
 ·have cn:cap<len+n:=by omega
  obtain⟨WR,xa,old,A4,hn,hk⟩:=h.2 cn;have A9:=growslice_fits (old:=cap) (bytes:=i.bytes) cn WR;have hm: ¬(((len+n:Nat):Int)>aa.max/\(False\/i.bytes=0)):=by
   have e:aa.max=9223372036854775807:=by decide
   rw[e];omega
  refine⟨_,_,_,_,?_,hk _ e (Kq (old:=cap) (el:=e) (w.tape w.drawn (.appendCap (len+n) cap e)))⟩;have Yp:∀(l c:Nat),(Builtin.firstCells i.size len (.slice b l c)).run P w.drew=.ok ⟨old⟩ w.drew:=λl c=>
   vx (w:=w.drew) ⟨A4.1,λa ha=>A4.2 a ha⟩ hn
  have E0:=zC w.drew (λ_=>rfl);have h48: ¬(Builtin.nextslicecap (len+n) cap* i.bytes>2^48):=by omega
  simp only[Builtin.append_,List.getElem?_toArray,H',bX,Sem.run_bind,gw ht,gw hu,run_sizeOf hi,Result.andThen_ok,Sem.run_pure,cM,if_false,hlen,Pd,if_true,hle,
   typeInfo,run_program,hi,h48,hm,zeroValue,hz,run_choose,Question.forced,run_askRoom,World.drew_eq,Yp,E0,newRow,run_newObj,World.alloc_eq,hz',Sem.run_ite,run_mark]
  have e2:(⟨old⟩++⟨new⟩:Array Value)=(old++new).toArray:=by simp
  rw[e2];rfl
def SA{t u ty:TypeId}{s x:Value}(hh:O0 P t u s x K w):SV P (Builtin.append_ #[t,u] ty #[s,x]) w K:=by
 unfold O0 at hh;generalize ht:P.underlying t=dt at hh;split at hh
 case h_2=>exact hh.elim
 rename_i e b n c;cases hi:P.info? e with
 |none=>simp only[hi,no] at hh
 |some i=>
  simp only[hi] at hh;cases hz:i.zero with
  |none=>simp only[hz,no] at hh
  |some z=>
   simp only[hz] at hh;generalize hu:P.underlying u=du at hh;split at hh
   ·rename_i e' b' m c';obtain⟨new,A4,hn,afK⟩:=hh;obtain⟨b1,n1,c1,w1,hr,hk⟩:=M3 (P:=P) (ty:=ty) (x:=.slice b' m c') afK ht hu (λk=>by simp) hi rfl rfl hz rfl (λw' SS=>vx (w:=w') ⟨A4.1,λa ha j v hj=>by rw[SS];exact A4.2 a ha j v hj⟩ hn);exact⟨_,_,hr,hk⟩
   ·rename_i y;cases hs:(iB i.size 1&&iB i.bytes 1) with
    |false=>simp only[hs,cond_false,no] at hh
    |true=>
     simp only[hs,cond_true] at hh;simp only[df] at hs;have h1:=eS hs.1;have h2:=eS hs.2;split at hh
     ·obtain⟨b1,n1,c1,w1,hr,hk⟩:=M3 (P:=P) (ty:=ty) (x:=.string y) (z:=.int .u8 0) hh ht hu (λk=>by simp) hi h1 h2 hz rfl (λw' _=>AV (w:=w') i.size);exact⟨_,_,hr,hk⟩
     ·exact hh.elim
   ·exact hh.elim
def acb{p:OA}{n c:Nat}{K:BA->WK}(h:VQ p n K w):∃s,(Conv.bytesToString (.slice p n c)).run P w=.ok (.string s) w/\K s w:=by
 cases p with
 |none=>exact⟨_,rfl,h.1 rfl⟩
 |some a=>
  obtain⟨cs,hl,hH,hb,hk⟩:=h.2 a rfl;refine⟨_,?_,hk⟩;subst hl;have key:∀(l:LV),(∀v∈l,∃m,v=.int .u8 m)->∃ns:List Int,l=ns.map (.int .u8)/\bytesOf l=ns.map λn=>UInt8.ofNat n.toNat:=by
   intro l
   induction l with
   |nil=>intro _;exact⟨[],rfl,rfl⟩
   |cons v l ih=>
    intro hv;obtain⟨m,rfl⟩:=hv v (by simp);obtain⟨ns,h1,h2⟩:=ih λv DR=>hv v (by simp[DR]);exact⟨m::ns,by rw[h1];rfl,by simp only[dx,<-h2];rfl⟩
  have fold:∀(ns:List Int)(s:BA),ns.foldl (λr n=>r.push (UInt8.ofNat n.toNat)) s=⟨s.data++(ns.map λn=>UInt8.ofNat n.toNat).toArray⟩:=by
   intro ns
   induction ns with
   |nil=>intro s;simp
   |cons n ns ih=>
    intro s;rw[List.foldl_cons,ih]
    congr 1
    apply tt;simp[ByteArray.push]
  obtain⟨ns,h1,h2⟩:=key cs hb;have pT:=run_loadCells_list (P:=P) w a cs hH;have:=run_bytesToString (P:=P) w a cs.length c ns (by rw[pT,h1]);rw[this,fold,h2];simp[ByteArray.empty,ByteArray.emptyWithCapacity]
  rfl
def aaY{e:TypeId}{s:BA}{K:Nat->Nat->WK}(h:s2b s K w):∃r c w',(Conv.stringToBytes e s).run P w=.ok (.slice (some ⟨r,0,none⟩) s.size c) w'/\K r c w':=by
 refine⟨_,_,_,?_,h _ e (Kq (old:=0) (el:=e) (w.tape w.drawn (.appendCap s.size 0 e)))⟩;have Ke:(choose (.appendCap s.size 0 e)).run P w=.ok ((Question.appendCap s.size 0 e).cut (w.tape w.drawn (.appendCap s.size 0 e))) w.drew:=rfl;simp only[Conv.stringToBytes,Sem.run_bind,Ke,Result.andThen_ok,newRow,run_newObj,World.alloc_eq,Sem.run_pure,markStringish,run_shape];have e1:(s.data.map λb=>Value.int .u8 b.toNat)=(strCells s).toArray:=by
  apply tt;simp[strCells]
 rw[e1];generalize hc:(Question.appendCap s.size 0 e).cut (w.tape w.drawn (Question.appendCap s.size 0 e))=c;have hle:s.size<=c:=by rw[<-hc];exact Kq (old:=0) (el:=e) _
 have qc:((strCells s).toArray++jL (c-s.size) (Value.int .u8 0)).size=c:=by
  have:s.data.size=s.size:=rfl;simp[strCells];omega
 have hsh:(w.drew.alloc (.cells ((strCells s).toArray++jL (c-s.size) (.int .u8 0)) e)).shape? w.drew.heap.size=some (e,c):=by
  simp only[World.shape?,World.alloc,Array.getElem?_push_size,qc]
 rw[hsh]
 rfl
def Fe(z:Array Value)(n:Nat):madeCells z (n* z.size)=Builtin.zeroCells z n:=rfl
def X0{t e:TypeId}{i:TypeInfo}{z:Value}{kl kc:IntKind}{l c:Int}(ht:P.underlying t=some (.slice e))(hi:P.info? e=some i)(hz:i.zero=some z)(hs:(fE z).length=i.size)
 (h:L3 i.bytes (fE z) l c (λb n c=>K (.slice b n c)) w):SV P (Instr.makeSlice t (.int kl l) (.int kc c)) w K:=by
 obtain⟨⟨h0,h1,h2,h3⟩,hk⟩:=h;refine⟨_,_,?_,hk e⟩;rw[run_make w t e i z ht hi hz kl kc l c h0 h1 (by rw[Int.mul_comm];exact h3) h2];have qc:z.cells.size=i.size:=by rw[<-hs,<-lA];simp
 rw[<-qc,Fe];have:z.cells=⟨fE z⟩:=by rw[<-lA]
 rw[this]
def Y2{t ty e:TypeId}{i:TypeInfo}{zO:Array TypeId}{b b':OA}{n c m c':Nat}(h0:zO[0]?=some t)(ht:P.underlying t=some (.slice e))(hi:P.info? e=some i)
 (h:Vy i.size b n b' m (λk=>K (.i k)) w):SV P (Builtin.copy_ zO ty #[.slice b n c,.slice b' m c']) w K:=by
 obtain⟨new,A4,hn,h1,h2⟩:=h;have hf:=vx (P:=P) (len:=m) (cap:=c') A4 hn;cases b with
 |none=>
  refine⟨_,w,?_,h1 rfl⟩;simp only[Builtin.copy_,h0,List.getElem?_toArray,H',bX,Sem.run_bind,gw ht,run_sizeOf hi,Result.andThen_ok,Sem.run_pure,Builtin.lenOf];rw[show Nat.min m n=min m n from rfl,hf]
  rfl
 |some a=>
  obtain⟨hc,hk⟩:=h2 a rfl;refine⟨_,_,?_,hk⟩;simp only[Builtin.copy_,h0,List.getElem?_toArray,H',bX,Sem.run_bind,gw ht,run_sizeOf hi,Result.andThen_ok,Sem.run_pure,Builtin.lenOf];rw[show Nat.min m n=min m n from rfl,hf];simp only[Result.andThen_ok,xg _ _ _ _ hc,Sem.run_pure]
  rfl
def Y3{t ty e:TypeId}{i:TypeInfo}{z:Value}{zO:Array TypeId}{b:OA}{n c:Nat}(h0:zO[0]?=some t)(ht:P.underlying t=some (.slice e))(hi:P.info? e=some i)(hz:i.zero=some z)
 (h:Y4 (Builtin.zeroCells ⟨fE z⟩ n).toList b n (K (.tuple ⟨[]⟩)) w):SV P (Builtin.clear_ zO ty #[.slice b n c]) w K:=by
 obtain⟨h1,h2⟩:=h;have hz':z.cells=⟨fE z⟩:=by rw[<-lA]
 cases b with
 |none=>
  refine⟨_,w,?_,h1 (.inl rfl)⟩;simp[Builtin.clear_,h0,gw ht]
 |some a=>
  cases n with
  |zero=>
   refine⟨_,w,?_,h1 (.inr rfl)⟩;simp[Builtin.clear_,h0,gw ht]
  |succ n=>
   obtain⟨hc,hk⟩:=h2 a rfl (by omega);refine⟨_,_,?_,hk⟩;simp only[Builtin.clear_,h0,List.getElem?_toArray,H',Sem.run_bind,gw ht,Result.andThen_ok,zeroValue,typeInfo,run_program,hi,hz,Sem.run_pure,hz',xg _ _ _ _ hc]
end
section
variable {P:Program} {K:VK} {w:World} {T:Hr} {n:Nat} {e:Env} {a:Act}
def aE(P:Program)(g:Nat)(p:WP):Prop:=
 (∃fn,P.funcs[g]?=some fn/\(fn.name== "runtime.NumGoroutine")=false/\fn.body.isNone=false)/\
 ∀args K w,p args K w->Calls P g ⟨args⟩ w λe w'=>∃v,e=.returned v/\K v w'
def Zo(P:Program)(g:Nat)(p:WP):Prop:=∀args K w,p args K w->∃v w',(callFunc g ⟨args⟩).run P w=.ok (.value v) w'/\K v w'
def oE(P:Program):Hr->Prop
 |[]=>True
 |(g,p)::r=>(aE P g p\/Zo P g p)/\oE P r
def MS:∀{T:Hr},oE P T->∀{g:Nat} {args:LV} {K:VK} {w:World},MT T g args K w->
 ((∃fn,P.funcs[g]?=some fn/\(fn.name== "runtime.NumGoroutine")=false/\fn.body.isNone=false)/\Calls P g ⟨args⟩ w λe w'=>∃v,e=.returned v/\K v w')\/
 ∃v w',(callFunc g ⟨args⟩).run P w=.ok (.value v) w'/\K v w'
 |[],_,_,_,_,_,h=>h.elim
 |(f,p)::r,hT,g,args,K,w,h=>by
  simp only[MT] at h;cases hb:iB f g with
  |true=>
   have:=eS hb;subst this;simp only[hb,cond_true] at h;rcases hT.1 with he|he
   ·exact .inl ⟨he.1,he.2 _ _ _ h⟩
   ·exact .inr (he _ _ _ h)
  |false=>
   simp only[hb,cond_false] at h;exact MS hT.2 h
def BQ{g:Nat}{args:Array Value}{fn:Func}(h:P.funcs[g]?=some fn)(h1:(fn.name== "runtime.NumGoroutine")=false)(h2:fn.body.isNone=false)(w:World):
 (callFunc g args).run P w=.ok (.enter g args) w:=by
 simp only[callFunc,Sem.run_bind,run_program,Result.andThen_ok,h,h1,h2,cM,if_false,Sem.run_pure]
def OQ(hT:oE P T)(hs:Sub n e a){c:Call}{ty:TypeId}(h:CA P T e c ty K w):To P (do let d<-resolve a.eval c ty;invoke d.target d.args) w K:=by
 obtain⟨callee,args,zO⟩:=c;unfold CA at h;cases yS:Sg e args.toList with
 |none=>simp only[yS,no] at h
 |some vs=>
  simp only[yS] at h;have Mn:=hs.Kk yS;cases callee with
  |invoke r m=>simp only[no] at h
  |value f=>
   cases hf:ev e f with
   |none=>simp only[hf,no] at h
   |some fv=>
    have hfe:=hs.eval hf;simp only[hf] at h;cases hz:zeroOf P ty with
    |none=>simp only[hz,no] at h
    |some z=>
     simp only[hz] at h;cases fv<;>first|exact False.elim h|skip
     rename_i fnv first cap
     cases fnv<;>first|exact False.elim h|skip
     rename_i g
     replace h:MT T g (first.toList++vs++cap.toList) (xT z K) w:=h
     have U7:(first++(⟨vs⟩:Array Value)++cap:Array Value)=⟨first.toList++vs++cap.toList⟩:=by
      apply tt;simp
     rcases MS hT h with⟨⟨fn,h1,h2,h3⟩,hc⟩|⟨v,w',hr,hk⟩
     ·refine .inr (.inr ⟨g,⟨first.toList++vs++cap.toList⟩,w,?_,hc.mono λe w' ⟨v,he,hk⟩=>⟨v,he,Tg hk⟩⟩);simp only[resolve,hfe,Mn,Deferred.ofValue,invoke,Sem.run_bind,Sem.run_pure,Result.andThen_ok];rw[U7,BQ h1 h2 h3]
     ·refine .inl ⟨v,w',?_,Tg hk⟩;simp only[resolve,hfe,Mn,Deferred.ofValue,invoke,Sem.run_bind,Sem.run_pure,Result.andThen_ok];rw[U7,hr]
  |builtin b=>
   simp only at h;have base:∀s:Sem Value,(∀cs,builtin b zO ty cs ⟨vs⟩=(do pure (.value (<-s))))->SV P s w K->To P (do let d<-resolve a.eval ⟨.builtin b,args,zO⟩ ty;invoke d.target d.args) w K:=by
    intro s hbs hsv;have:=SV.toX hsv;have e1:(do let d<-resolve a.eval ⟨.builtin b,args,zO⟩ ty;invoke d.target d.args:Sem Next)=(do pure (.value (<-s))):=by
     rw[<-hbs (args.map λ| .const _=>true|_=>false)];simp only[resolve,Mn,invoke]
     rfl
    rw[e1];exact this
   unfold Bh at h;generalize KV:zO.toList=ts at h;split at h
   ·rename_i t r x;have h0:zO[0]?=some t:=by cases zO;simp only at KV;subst KV;rfl
    have hm:(∃k v,P.underlying t=some (.map k v))\/Gn P t x K w:=by
     cases hu:P.underlying t with
     |none=>right;simpa only[hu] using h
     |some u=>cases u<;>first|exact .inl ⟨_,_,rfl⟩|(right;simpa only[hu] using h)
    rcases hm with⟨kt,vt,hu⟩|h
    ·simp only[hu] at h;unfold X4 at h;split at h
     ·obtain⟨es,c,hb,hk⟩:=h;rename_i b;exact base (Builtin.len_ zO ty #[.map (some b)]) (λcs=>rfl) ⟨_,w,by simp[Builtin.len_,h0,gw hu,goInt,MapKept.run_getObj_map hb],hk⟩
     ·exact h.elim
    refine base (Builtin.len_ zO ty #[x]) (λcs=>rfl) (PV.sv (IS (t:=t) (.inr ⟨r,KV⟩) h))
   ·rename_i k x r;cases hm:ru x r with
    |none=>simp only[hm,no] at h
    |some m=>
     simp only[hm] at h;exact base (Builtin.min_ zO ty ⟨.int k x::r⟩) (λcs=>rfl) ⟨_,w,C6 hm w,h⟩
   ·rename_i k x r;cases hm:Gm x r with
    |none=>simp only[hm,no] at h
    |some m=>
     simp only[hm] at h;exact base (Builtin.max_ zO ty ⟨.int k x::r⟩) (λcs=>rfl) ⟨_,w,IN hm w,h⟩
   ·rename_i t u s x;have afH:zO=#[t,u]:=by cases zO;simp only at KV;subst KV;rfl
    subst afH;exact base (Builtin.append_ #[t,u] ty #[s,x]) (λcs=>rfl) (SA h)
   ·rename_i t r b1 m1 c1 b2 m2 c2;have h0:zO[0]?=some t:=by cases zO;simp only at KV;subst KV;rfl
    generalize ht:P.underlying t=d at h;split at h
    ·rename_i el;cases hi:P.info? el with
     |none=>simp only[hi,no] at h
     |some i=>
      simp only[hi] at h;exact base (Builtin.copy_ zO ty #[.slice b1 m1 c1,.slice b2 m2 c2]) (λcs=>rfl) (Y2 h0 ht hi h)
    ·exact h.elim
   ·rename_i t r b1 m1 c1;have h0:zO[0]?=some t:=by cases zO;simp only at KV;subst KV;rfl
    generalize ht:P.underlying t=d at h;split at h
    ·rename_i el;cases hi:P.info? el with
     |none=>simp only[hi,no] at h
     |some i=>
      simp only[hi] at h;cases hz:i.zero with
      |none=>simp only[hz,no] at h
      |some z=>
       simp only[hz] at h;exact base (Builtin.clear_ zO ty #[.slice b1 m1 c1]) (λcs=>rfl) (Y3 h0 ht hi hz h)
    ·exact h.elim
   ·rename_i t r b1 m1 c1;have h0:zO[0]?=some t:=by cases zO;simp only at KV;subst KV;rfl
    generalize ht:P.underlying t=d at h;split at h
    ·exact base (Builtin.cap_ zO ty #[.slice b1 m1 c1]) (λcs=>rfl) ⟨_,w,by simp[Builtin.cap_,h0,gw ht,goInt],h⟩
    ·exact h.elim
   ·exact h.elim
def OM{s d:TypeId}{x:Value}(h:E4 P s d x K w):SV P (convert s d x) w K:=by
 unfold E4 at h;cases hs:P.underlying s with
 |none=>simp only[hs,no] at h
 |some sd=>
  simp only[hs] at h;generalize hd:P.underlying d=dd at h;split at h
  ·exact⟨_,_,run_convert_int hs hd _ _ w,h⟩
  ·exact⟨_,_,by cases sd<;>simp[convert,gw hs,gw hd],h⟩
  ·rename_i el b;generalize he:P.underlying el=ed at h;split at h
   ·obtain⟨r,c,w',hr,hk⟩:=aaY (P:=P) (e:=el) h;refine⟨_,w',?_,hk⟩;cases sd<;>simp[convert,gw hs,gw hd,gw he,hr]
   ·exact h.elim
  ·rename_i p m c;cases sd<;>simp only[no] at h
   rename_i el;generalize he:P.underlying el=ed at h;split at h
   ·obtain⟨r,hr,hk⟩:=acb (P:=P) (c:=c) h;refine⟨_,w,?_,hk⟩;simp[convert,gw hs,gw hd,gw he,hr]
   ·exact h.elim
  ·exact h.elim
def HY{t:TypeId}{m:Nat}{ps:List (Nat×Value)}(hh:Bi P t m ps K w):SV P (Instr.buildSlice t m ⟨ps⟩) w K:=by
 unfold Bi at hh;cases hu:P.underlying t with
 |none=>simp only[hu,no] at hh
 |some d=>
  cases d<;>simp only[hu,no] at hh
  rename_i el;cases hi:P.info? el with
  |none=>simp only[hi,no] at hh
  |some i=>
   simp only[hi] at hh;cases hz:i.zero with
   |none=>simp only[hz,no] at hh
   |some z=>
    simp only[hz] at hh;cases hb:(Nat.ble (m* i.size) 16777216&&Nat.blt 0 i.size&&iB (fE z).length i.size) with
    |false=>simp only[hb,cond_false,no] at hh
    |true=>
     simp only[hb,cond_true] at hh;simp only[df] at hb;obtain⟨⟨WR,xa⟩,hb3⟩:=hb;have h1:m* i.size<=16777216:=aK WR;have h3:=eS hb3;cases hc:vM (Builtin.zeroCells ⟨fE z⟩ m).toList ((qk m).map λj=>(j* i.size,i.size)) 0 0 (ps.map λp=>(p.1,fE p.2)) with
     |none=>simp only[hc,no] at hh
     |some y=>
      obtain⟨cs,p⟩:=y;simp only[hc] at hh;obtain⟨UU,hk⟩:=hh;have hf:=xE ((qk m).map λj=>(j* i.size,i.size)) (λj=>some (j* i.size,i.size)) (λj x hx=>by
       rw[fy] at hx
       cases hr:(qk m)[j]? with
       |none=>simp[hr] at hx
       |some q=>
        have:q=j:=by
         rw[rL] at hr
         ·exact(bA.inj hr).symm
         ·have:=(ar.1 hr).1;simpa using this
        subst this;simpa [hr] using hx) _ _ 0 0 [] ps cs p rfl rfl (aF _) hc UU
      simp only[cQ,jf] at hf;have qc:z.cells=⟨fE z⟩:=by rw[<-lA]
      have hzz:(⟨fE z⟩:Array Value).size=i.size:=h3;have afc:((Array.range (m* i.size)).map λx=>(⟨fE z⟩:Array Value)[x%(⟨fE z⟩:Array Value).size]!)=Builtin.zeroCells ⟨fE z⟩ m:=by
       rw[<-hzz];rfl
      refine⟨_,_,?_,hk el⟩;simp only[Instr.buildSlice,Sem.run_bind,gw hu,Result.andThen_ok,run_sizeOf hi];have hn: ¬(m* i.size>2^24):=by omega
      simp only[hn,if_false];by_cases h0:m* i.size=0
      ·have hm:m=0:=by
        rcases Nat.mul_eq_zero.1 h0 with h|h
        ·exact h
        ·rw[h] at xa;simp at xa
       subst hm;have hzc:Builtin.zeroCells ⟨fE z⟩ 0=#[]:=by simp[Builtin.zeroCells]
       rw[hzc] at hf;have EZ:∀f:Nat->Value,(Array.range (0* i.size)).map f=#[]:=λf=>by rw[Nat.zero_mul];simp
       simp only[h0,if_true];simp only[Nat.zero_mul] at EZ;rw[show ∀z:Array Value,(⟨z.toList⟩:Array Value)=z from λz=>rfl] at hf;simp only[Sem.run_bind,Sem.run_pure,Result.andThen_ok,EZ];rw[hf]
       rfl
      ·simp only[h0,if_false,Sem.run_bind,zeroValue,typeInfo,run_program,hi,hz,Result.andThen_ok,Sem.run_pure,qc,afc];rw[show ∀z:Array Value,(⟨z.toList⟩:Array Value)=z from λz=>rfl] at hf;rw[hf]
       rfl
end
section
variable {P:Program} {K:VK} {w:World} {T:Hr} {E:Td} {n:Nat} {e:Env} {a:Act}
def Pure.of_eq{s:Sem Next}(v:Value)(h:s=pure (.value v))(hk:K v w):Pure P s w K:=⟨v,λw'=>by rw[h];rfl,hk⟩
def Kt(hs:Sub n e a){c:Call}{ty:TypeId}(hc:cls P (.call c)=0)(h:CA P T e c ty K w):Pure P (do let d<-resolve a.eval c ty;invoke d.target d.args) w K:=by
 obtain⟨callee,args,zO⟩:=c;unfold CA at h;cases yS:Sg e args.toList with
 |none=>simp only[yS,no] at h
 |some vs=>
  simp only[yS] at h;have Mn:=hs.Kk yS;cases callee with
  |invoke r m=>simp only[no] at h
  |value f=>simp[cls] at hc
  |builtin b=>
   simp only at h;have base:∀s:Sem Value,(∀cs,builtin b zO ty cs ⟨vs⟩=(do pure (.value (<-s))))->PV P s w K->Pure P (do let d<-resolve a.eval ⟨.builtin b,args,zO⟩ ty;invoke d.target d.args) w K:=by
    intro s hbs hsv;have:=PV.pure hsv;have e1:(do let d<-resolve a.eval ⟨.builtin b,args,zO⟩ ty;invoke d.target d.args:Sem Next)=(do pure (.value (<-s))):=by
     rw[<-hbs (args.map λ| .const _=>true|_=>false)];simp only[resolve,Mn,invoke]
     rfl
    rw[e1];exact this
   unfold Bh at h;generalize KV:zO.toList=ts at h;split at h
   ·rename_i t r x
    replace h:Gn P t x K w:=by
     cases hu:P.underlying t with
     |none=>simpa only[hu] using h
     |some u=>cases u<;>first|simpa only[hu] using h|simp[cls,KV,hu] at hc
    exact base (Builtin.len_ zO ty #[x]) (λcs=>rfl) (IS (t:=t) (.inr ⟨r,KV⟩) h)
   ·rename_i k x r;cases hm:ru x r with
    |none=>simp only[hm,no] at h
    |some m=>
     simp only[hm] at h;exact base (Builtin.min_ zO ty ⟨.int k x::r⟩) (λcs=>rfl) ⟨_,C6 hm,h⟩
   ·rename_i k x r;cases hm:Gm x r with
    |none=>simp only[hm,no] at h
    |some m=>
     simp only[hm] at h;exact base (Builtin.max_ zO ty ⟨.int k x::r⟩) (λcs=>rfl) ⟨_,IN hm,h⟩
   ·simp[cls] at hc
   ·simp[cls] at hc
   ·simp[cls] at hc
   ·simp[cls] at hc
   ·exact h.elim
def Gh(hE:sj P E)(hs:Sub n e a){o:Oper}(hc:cls P o.op=0)(h:zv P T E e o.op o.type K w):Pure P (execOp a.eval o) w K:=by
 obtain⟨dst,op,ty,pos,after,guard⟩:=o;simp only at hc h;cases op<;>simp[cls] at hc<;>simp only[zv] at h
 case move x=>
  cases hx:ev e x with
  |none=>simp only[hx,no] at h
  |some v=>simp only[hx] at h;exact .of_eq v (by simp only[execOp,hs.eval hx]) h
 case assign x=>
  cases hx:ev e x with
  |none=>simp only[hx,no] at h
  |some v=>simp only[hx] at h;exact .of_eq v (by simp only[execOp,hs.eval hx]) h
 case pick c x y=>
  cases hx:ev e c with
  |none=>simp only[hx,no] at h
  |some v=>
   cases v<;>simp only[hx,no] at h
   rename_i b;cases b with
   |true=>
    simp only[br] at h;cases hy:ev e x with
    |none=>simp only[hy,no] at h
    |some u=>simp only[hy] at h;exact .of_eq u (by simp only[execOp,hs.eval hx,hs.eval hy,asBool,pure_bind,if_true]) h
   |false=>
    simp only[br] at h;cases hy:ev e y with
    |none=>simp only[hy,no] at h
    |some u=>simp only[hy] at h;exact .of_eq u (by simp only[execOp,hs.eval hx,hs.eval hy,asBool,pure_bind,cM,if_false]) h
 case nilCheck x=>
  cases hx:ev e x with
  |none=>simp only[hx,no] at h
  |some v=>
   simp only[hx] at h;unfold ZZ at h;split at h
   ·rename_i p;cases p with
    |none=>exact h.elim
    |some p=>simp only[nn] at h;exact .of_eq _ (by simp only[execOp,hs.eval hx]) h
   ·exact .of_eq _ (by simp only[execOp,hs.eval hx]) h
   ·exact h.elim
 case binOp op t x y u=>
  cases hx:ev e x with
  |none=>simp only[hx,no] at h
  |some v=>
   cases hy:ev e y with
   |none=>simp only[hx,hy,no] at h
   |some u=>
    simp only[hx,hy] at h;simp only[execOp,hs.eval hx,hs.eval hy];exact PV.pure (Sz hE h)
 case unOp op t x=>
  cases hx:ev e x with
  |none=>simp only[hx,no] at h
  |some v=>
   simp only[hx] at h;simp only[execOp,hs.eval hx];exact PV.pure (Tw h)
 case makeFunc fn first cap=>
  cases hx:Sg e first.toList with
  |none=>simp only[hx,no] at h
  |some f=>
   cases hy:Sg e cap.toList with
   |none=>simp only[hx,hy,no] at h
   |some c=>
    simp only[hx,hy] at h;simp only[execOp,hs.Kk hx,hs.Kk hy];exact PV.pure ⟨_,λw'=>rfl,h⟩
 case slice t x lo hi mx=>
  cases mx with
  |some _=>simp only[no] at h
  |none=>
   simp only at h;cases hx:ev e x with
   |none=>simp only[hx,no] at h
   |some v=>
    cases hl:WV e lo with
    |none=>simp only[hx,hl,no] at h
    |some l=>
     cases hh:WV e hi with
     |none=>simp only[hx,hl,hh,no] at h
     |some u=>
      simp only[hx,hl,hh] at h;simp only[execOp,hs.eval hx];exact PV.pure (Lo (hs.WV hl) (hs.WV hh) h)
 case fieldAddr t x f=>
  cases hx:ev e x with
  |none=>simp only[hx,no] at h
  |some v=>
   simp only[hx] at h;simp only[execOp,hs.eval hx];exact PV.pure (Ev h)
 case field t x f=>
  cases hx:ev e x with
  |none=>simp only[hx,no] at h
  |some v=>
   simp only[hx] at h;simp only[execOp,hs.eval hx];exact PV.pure (Mz h)
 case indexAddr t x i=>
  cases hx:ev e x with
  |none=>simp only[hx,no] at h
  |some v=>
   cases hy:ev e i with
   |none=>simp only[hx,hy,no] at h
   |some j=>
    simp only[hx,hy] at h;simp only[execOp,hs.eval hx,hs.eval hy];exact PV.pure (Er h)
 case index t x i=>
  cases hx:ev e x with
  |none=>simp only[hx,no] at h
  |some v=>
   cases hy:ev e i with
   |none=>simp only[hx,hy,no] at h
   |some j=>
    simp only[hx,hy] at h;simp only[execOp,hs.eval hx,hs.eval hy];exact PV.pure (Mf h)
 case extract x i=>
  cases hx:ev e x with
  |none=>simp only[hx,no] at h
  |some v=>
   cases v<;>simp only[hx,no] at h
   rename_i vs;cases hv:vs[i]? with
   |none=>simp only[hv,no] at h
   |some u=>
    simp only[hv] at h;simp only[execOp,hs.eval hx];exact PV.pure ⟨u,λw'=>by simp[Instr.extract,hv],h⟩
 case build t ps=>
  cases hx:Kl e ps.toList with
  |none=>simp only[hx,no] at h
  |some l=>
   simp only[hx] at h;have hm:(ps.map λ(i,x)=>(i,a.eval x))=⟨l⟩:=by
    have:=hs.OE hx;apply tt;rw[Array.toList_map];exact this
   simp only[execOp,hm];exact PV.pure (MV h)
 case convert s d x=>
  cases hx:ev e x with
  |none=>simp only[hx,no] at h
  |some v=>
   simp only[hx] at h;simp only[execOp,hs.eval hx];cases hd:P.underlying d with
   |none=>simp[hd] at hc
   |some dd=>
    cases dd<;>simp[hd] at hc
    unfold E4 at h;cases SU:P.underlying s with
    |none=>simp only[SU,no] at h
    |some sd=>
     simp only[SU,hd] at h;cases v<;>simp only[no] at h
     exact PV.pure ⟨_,λw'=>run_convert_int SU hd _ _ w',h⟩
 case call c=>
  simp only[execOp];exact Kt hs (by simp only[cls];exact hc) h
def Gg(hE:sj P E)(hT:oE P T)(hs:Sub n e a){o:Oper}(h:zv P T E e o.op o.type K w):To P (execOp a.eval o) w K:=by
 by_cases hc:cls P o.op=0
 ·exact(Gh hE hs hc h).toX
 obtain⟨dst,op,ty,pos,after,guard⟩:=o;simp only at hc h;cases op<;>simp[cls] at hc<;>simp only[zv,no] at h
 case alloc t=>
  cases hz:zeroOf P t with
  |none=>simp only[hz,no] at h
  |some z=>
   simp only[hz] at h;cases hsf:Ip P t with
   |true=>rw[hsf] at h;exact SV.toX (SB hz h)
   |false=>rw[hsf] at h;exact SV.toX (VT hz h)
 case box t x=>
  cases hx:ev e x with
  |none=>simp only[hx,no] at h
  |some v=>
   simp only[hx] at h;simp only[execOp,hs.eval hx];exact SV.toX (ac8 h v rfl)
 case buildSlice t m ps=>
  cases hx:Kl e ps.toList with
  |none=>simp only[hx,no] at h
  |some l=>
   simp only[hx] at h;have hm:(ps.map λ(i,x)=>(i,a.eval x))=⟨l⟩:=by
    have:=hs.OE hx;apply tt;rw[Array.toList_map];exact this
   simp only[execOp,hm];exact SV.toX (HY h)
 case load t x=>
  cases hx:ev e x with
  |none=>simp only[hx,no] at h
  |some v=>
   cases v<;>simp only[hx,no] at h
   rename_i p;cases p with
   |none=>exact h.elim
   |some p=>
    simp only at h;simp only[execOp,hs.eval hx];obtain⟨v,cs,hH,hr,hk⟩:=yg h;exact SV.toX ⟨v,w,by simp[Instr.loadAt,Instr.sureAddr,hr w hH],hk⟩
 case store t x y=>
  cases hx:ev e x with
  |none=>simp only[hx,no] at h
  |some v=>
   cases hy:ev e y with
   |none=>cases v<;>simp only[hx,hy,no] at h
   |some u=>
    cases v<;>simp only[hx,hy,no] at h
    rename_i p;cases p with
    |none=>exact h.elim
    |some p=>
     simp only at h;simp only[execOp,hs.eval hx,hs.eval hy];obtain⟨w',hr,hk⟩:=Hx h;exact .inr (.inl ⟨w',by simp[Instr.storeAt,Instr.sureAddr,hr],hk⟩)
 case convert s d x=>
  cases hx:ev e x with
  |none=>simp only[hx,no] at h
  |some v=>
   simp only[hx] at h;simp only[execOp,hs.eval hx];exact SV.toX (OM h)
 case makeSlice t m c=>
  cases hu:P.underlying t with
  |none=>simp only[hu,no] at h
  |some d=>
   cases hx:ev e m with
   |none=>cases d<;>simp only[hu,hx,no] at h
   |some mv=>
    cases hy:ev e c with
    |none=>cases d<;>simp only[hu,hx,hy,no] at h
    |some cv=>
     cases d<;>simp only[hu,hx,hy,no] at h
     cases mv<;>(try simp only[no] at h)
     cases cv<;>simp only[no] at h
     rename_i el k1 mi k2 ci;cases hi:P.info? el with
     |none=>simp only[hi,no] at h
     |some i=>
      simp only[hi] at h;cases hz:i.zero with
      |none=>simp only[hz,no] at h
      |some z=>
       simp only[hz] at h;cases hb:(Nat.blt 0 i.size&&iB (fE z).length i.size) with
       |false=>simp only[hb,cond_false,no] at h
       |true=>
        simp only[hb,cond_true] at h;simp only[df] at hb;simp only[execOp,hs.eval hx,hs.eval hy];exact SV.toX (X0 hu hi hz (eS hb.2) h)
 case call c=>
  simp only[execOp];exact OQ hT hs h
 case makeMap t r=>
  cases r with
  |some _=>simp only[no] at h
  |none=>
   simp only at h;simp only[execOp];exact SV.toX ⟨_,_,rfl,h⟩
 case lookup t m k co=>
  cases co with
  |true=>simp only[no] at h
  |false=>
   simp only at h;cases hx:ev e m with
   |none=>simp only[hx,no] at h
   |some mv=>
    cases hy:ev e k with
    |none=>simp only[hx,hy,no] at h
    |some kv=>
     cases hu:P.underlying t with
     |none=>simp only[hx,hy,hu,no] at h
     |some d=>
      cases d<;>simp only[hx,hy,hu,no] at h
      rename_i kt el;cases hz:zeroOf P el with
      |none=>simp only[hz,no] at h
      |some z=>
       simp only[hz] at h;obtain⟨v,hr,hk⟩:=h;simp only[execOp,hs.eval hx,hs.eval hy];exact SV.toX ⟨v,w,hr,tO hk⟩
 case mapUpdate t m k v=>
  cases hx:ev e m with
  |none=>simp only[hx,no] at h
  |some mv=>
   cases hy:ev e k with
   |none=>simp only[hx,hy,no] at h
   |some kv=>
    cases hz:ev e v with
    |none=>simp only[hx,hy,hz,no] at h
    |some vv=>
     simp only[hx,hy,hz] at h;obtain⟨w',hr,hk⟩:=h;simp only[execOp,hs.eval hx,hs.eval hy,hs.eval hz];exact .inr (.inl ⟨w',by simp[hr],hk⟩)
end
def S2(F:Fn)(e:Env)(a:Act):Prop:=Sub F.n e a/\Sub F.n F.C a
def QS(F:Fn)(Q:Exit->Env->WK):Exit->Act->World->Prop:=λex a w=>(∃e,S2 F e a/\Q ex e w)/\∀c,ex≠.panic c
structure Ok(F:Fn):Prop where
 Ij:oE F.P F.T
 eqs:sj F.P F.E
 mixed:F.P.follows .mixedOrders=true
section
variable {F:Fn} {P:Program} {w:World} {e:Env} {a:Act} {ops:Array Oper}
def We{Q:Exit->Env->WK}{c:List PanicEntry}{a:Act}{w:World}: ¬QS F Q (.panic c) a w:=λh=>h.2 c rfl
def vA{d:Option Tmp}{v:Value}{K:Env->WK}(hs:S2 F e a)(h:pt F.n F.C e d v K w):∃e',S2 F e' (a.put d v)/\K e' w:=by
 cases d with
 |none=>exact⟨e,hs,h⟩
 |some d=>
  simp only[pt] at h;cases hb:(Nat.blt d F.n&&cover F.C d) with
  |false=>simp only[hb,cond_false,no] at h
  |true=>
   simp only[hb,cond_true] at h;simp only[df] at hb;have RV:=hs.1.put (by have:=hb.1;rwa[Nat.blt_eq] at this) v;refine⟨_,⟨RV,RV.size,RV.defers,λt u ht=>?_⟩,h⟩;have kJ:d≠t:=λhd=>by
    subst hd;have:=hb.2;simp only[cover,ht,cM] at this
   simp only[Act.put];rw[Array.getElem?_setIfInBounds_ne kJ];exact hs.2.get t u ht
def K1{o:Oper}{K:VK}{next:Act->World->Prop}{Q:Exit->Act->World->Prop}(h:To P (execOp a.eval o) w K)(hk:∀v w',K v w'->next (a.put o.dst v) w'):o.wp P a w next Q:=by
 unfold Oper.wp;rcases h with⟨v,w',hr,h⟩|⟨w',hr,h⟩|⟨g,args,w',hr,h⟩
 ·rw[hr];exact hk _ _ h
 ·rw[hr];exact hk _ _ h
 ·rw[hr];refine Calls.mono h λe w'' ⟨v,he,hv⟩=>?_;subst he;exact hk _ _ hv
def Vc{j:Nat}{d:Tmp}{b:Bool}(hd:Sd ops j=some d)(h:lk e d=some (.bool b)){n:Nat}(hs:Sub n e a):yielded ops a.tmps j=some b:=by
 unfold Sd at hd;unfold yielded;cases ho:ops[j]? with
 |none=>simp[ho] at hd
 |some o=>
  simp only[ho] at hd;simp only[Option.bind_some,hd,hs.get _ _ h]
def Js(a b:Bool):OX a b=(a==b):=by cases a<;>cases b<;>rfl
def tV{o:Oper}{run skip:Env->WK}{X:Prop}(hs:S2 F e a)(h:guarded ops o e run skip w)
 (hr:∀e',S2 F e' a->Region.wanted o (yielded ops a.tmps)=true->run e' w->X)
 (hk:∀e',S2 F e' a->Region.wanted o (yielded ops a.tmps)=false->skip e' w->X):X:=by
 unfold guarded at h;cases hg:o.guard with
 |none=>
  simp only[hg] at h;exact hr e hs (by simp[Region.wanted,hg]) h
 |some jw=>
  obtain⟨j,want⟩:=jw;simp only[hg] at h;cases hd:Sd ops j with
  |none=>simp only[hd,no] at h
  |some d=>
   simp only[hd] at h;cases hl:lk e d with
   |none=>simp only[hl,no] at h
   |some v=>
    cases v<;>simp only[hl,no] at h
    case tuple vs=>
     refine hk e hs ?_ h;have:yielded ops a.tmps j=none:=by
      unfold Sd at hd;unfold yielded;cases ho:ops[j]? with
      |none=>simp[ho] at hd
      |some o=>
       simp only[ho] at hd;simp only[Option.bind_some,hd,hs.1.get _ _ hl]
     simp only[Region.wanted,hg,this]
     rfl
    rename_i b;have hy:=Vc hd hl hs.1;have KY:S2 F _ a:=⟨hs.1.again hl,hs.2⟩;have hw:Region.wanted o (yielded ops a.tmps)=(b==want):=by
     simp only[Region.wanted,hg,hy];cases b<;>cases want<;>rfl
    cases b with
    |true=>
     simp only[br,Js] at h;cases hb:(true==want) with
     |true=>simp only[hb,cond_true] at h;exact hr _ KY (by rw[hw,hb]) h
     |false=>simp only[hb,cond_false] at h;exact hk _ KY (by rw[hw,hb]) h
    |false=>
     simp only[br,Js] at h;cases hb:(false==want) with
     |true=>simp only[hb,cond_true] at h;exact hr _ KY (by rw[hw,hb]) h
     |false=>simp only[hb,cond_false] at h;exact hk _ KY (by rw[hw,hb]) h
def AE{o:Oper}{K:Env->WK}(h:ZX F ops o K e w):
 guarded ops o e (λe=>zv F.P F.T F.E e o.op o.type λv=>pt F.n F.C e o.dst v K) (λe=>pt F.n F.C e o.dst undef K) w:=h
def BJ(hF:Ok F){Q:Exit->Act->World->Prop}{K:Env->WK}(hK:∀e a w,S2 F e a->K e w->Q .normal a w):
 ∀(l:List Nat)(os:List Oper)(e:Env)(a:Act)(w:World),l.length=os.length->(∀k i:Nat,l[k]?=some i->ops[i]?=os[k]?)->S2 F e a->zk F ops os K e w->wpOps F.P ops Q l a w
 |[],[],e,a,w,_,_,hs,h=>hK e a w hs h
 |[],_::_,_,_,_,hl,_,_,_=>by simp at hl
 |_::_,[],_,_,_,hl,_,_,_=>by simp at hl
 |i::l,o::os,e,a,w,hl,hi,hs,h=>by
  have hio:ops[i]?=some o:=hi 0 i rfl;have rest:=λe a w=>BJ hF hK l os e a w (by simpa using hl) (λ(k j:Nat)(hk:l[k]?=some j)=>hi (k+1) j (by simpa using hk));rw[wpOps_cons];unfold wpOp;simp only[hio];refine tV (F:=F) hs (AE h) (λe' fF hw hr=>?_) (λe' fF hw hr=>?_)
  ·rw[ai hw];refine .inl (K1 (Gg hF.eqs hF.Ij fF.1 hr) λv w' hv=>?_);obtain⟨Vq,yY,hk⟩:=vA fF hv;exact rest _ _ _ yY hk
  ·rw[ag (by rw[hw];exact cO)];obtain⟨Vq,yY,hk⟩:=vA fF hr;exact rest _ _ _ yY hk
abbrev SL:=List (Nat×(World->Prop))
def yN(o:Oper)(S:SL):SL:=S.filter λp=> !waits o p.1
def wpAnyS(P:Program)(ops:Array Oper)(Q:Exit->Act->World->Prop):Nat->SL->Array Bool->Act->World->Prop
 |0,_,listed,a,w=>Region.ready .any ops listed=[]/\Q .normal a w
 |fuel+1,S,listed,a,w=>
  (Region.ready .any ops listed=[]->Q .normal a w)/\
  ∀i∈Region.ready .any ops listed,∀o,ops[i]?=some o->wpOp P ops Q i (λa' w'=>(∀p∈yN o S,p.2 w')/\wpAnyS P ops Q fuel (yN o S) (listed.setIfInBounds i true) a' w') a w
def Fk{Q:Exit->Act->World->Prop}:∀(fuel:Nat)(S:SL)(listed:Array Bool)(a:Act)(w:World),wpAnyS P ops Q fuel S listed a w->wpAny P .any ops Q fuel listed a w
 |0,_,_,_,_,h=>h
 |fuel+1,S,listed,a,w,h=>⟨h.1,λi hi=>by
                          obtain⟨_,o,ho,_⟩:=mem_ready.1 hi
                          exact wpOp_mono (λa' w' h'=>Fk fuel _ _ a' w' h'.2) (h.2 i hi o ho)⟩
def tY{Q:Exit->Act->World->Prop}:∀(fuel:Nat)(S S':SL)(listed:Array Bool)(a:Act)(w:World),(∀p∈S',p∈S\/∀w,p.2 w)->wpAnyS P ops Q fuel S listed a w->wpAnyS P ops Q fuel S' listed a w
 |0,_,_,_,_,_,_,h=>h
 |fuel+1,S,S',listed,a,w,abo,h=>⟨h.1,λi hi o ho=>by
                                 have hs:∀p∈yN o S',p∈yN o S\/∀w,p.2 w:=λp hp=>by
                                  simp only[yN,Bn] at hp⊢
                                  exact(abo _ hp.1).imp (λh=>⟨h,hp.2⟩) id
                                 exact wpOp_mono (λa' w' h'=>⟨λp hp=>(hs p hp).elim (h'.1 p) (λh=>h w'),tY fuel _ _ _ a' w' hs h'.2⟩) (h.2 i hi o ho)⟩
def wpAnyS_first{Q:Exit->Act->World->Prop}{i:Nat}{oi:Oper}{v:Value}{Y:World->Prop}(hi:ops[i]?=some oi)(C':∀(j:Nat)(o:Oper) cs b,ops[j]?=some o->o.op≠.select cs b)
 (hQ:∀c a w,Q (.panic c) (a.put oi.dst v) w->Q (.panic c) a w):
 ∀(fuel:Nat)(S:SL)(listed:Array Bool)(a:Act)(w:World),
  (∀j oj,ops[j]?=some oj->j≠i->listed.getD j true=false->(∀e∈oj.after,Region.binds .any e=true->e.on≠i)->oi.apart ops oj=true)->
  i∈Region.ready .any ops listed->YieldsIf P ops Y oi v a->Y w->(∀p∈S,p.2 w)->
  wpAnyS P ops Q fuel ((i,Y)::S) (listed.setIfInBounds i true) (a.put oi.dst v) w->wpAnyS P ops Q (fuel+1) S listed a w:=by
 intro fuel
 induction fuel with
 |zero=>
  intro S listed a w _ hr hy hY hS H;refine⟨λh=>(by rw[h] at hr;cases hr),λj hj o ho=>?_⟩;by_cases Mp:j=i
  ·subst Mp;rw[hi] at ho;cases ho
   exact hy.wpOp hi hY ⟨λp hp=>hS p (Bn.1 hp).1,H⟩
  ·have:=ready_mono hj Mp;rw[H.1] at this;cases this
 |succ fuel ih=>
  intro S listed a w I8 hr hy hY hS H;refine⟨λh=>(by rw[h] at hr;cases hr),λj hj o ho=>?_⟩;by_cases Mp:j=i
  ·subst Mp;rw[hi] at ho;cases ho
   refine hy.wpOp hi hY ⟨λp hp=>hS p (Bn.1 hp).1,?_⟩;exact tY _ _ _ _ _ _ (λp hp=>.inl (jV _ (Bn.1 hp).1)) H
  ·have h1:=H.2 j (ready_mono hj Mp) o ho;obtain⟨adz,oj,hoj,fI⟩:=mem_ready.1 hj;rw[ho] at hoj;cases hoj
   have hun:=(mem_ready.1 hr).1;have ads:∀e∈o.after,Region.binds .any e=true->e.on≠i:=λe he hb heq=>by
    have h1:=fI e he hb;have h0:=hun;rw[heq] at h1;rcases Nat.lt_or_ge i listed.size with h'|h'
    ·simp[h'] at h0 h1;rw[h0] at h1;cases h1
    ·simp[Array.getElem?_eq_none h'] at h1
   have hnw:waits o i=false:=by
    cases hw:waits o i with
    |false=>rfl
    |true=>
     simp only[waits,Array.any_eq_true'] at hw;obtain⟨e,he,hb⟩:=hw;simp only[df] at hb;exact aT (eS hb.2) (ads e he hb.1)
   have adH:yN o ((i,Y)::S)=(i,Y)::yN o S:=by simp[yN,hnw]
   rw[adH] at h1;have h2:=wpOp_putIf ho (I8 j o ho Mp adz ads) (λcs b=>C' i oi cs b hi) (λcs b=>C' j o cs b ho) hQ hy h1;have abA:∀k ok,ops[k]?=some ok->k≠i->(listed.setIfInBounds j true).getD k true=false->
      (∀e∈ok.after,Region.binds .any e=true->e.on≠i)->oi.apart ops ok=true:=λk ok hk hki hun Hp=>by
    refine I8 k ok hk hki ?_ Hp;by_cases hjk:j=k
    ·subst hjk;exact adz
    ·rw[getD_set_ne true hjk] at hun;exact hun
   refine wpOp_mono (λa' w' h3=>?_) h2;have hY':Y w':=h3.2.1 (i,Y) (by simp);have hS':∀p∈yN o S,p.2 w':=λp hp=>h3.2.1 p (by simp[hp]);refine⟨hS',ih (yN o S) (listed.setIfInBounds j true) a' w' abA (ready_mono hr (Ne.symm Mp)) h3.1 hY' hS' ?_⟩;rw[Array.setIfInBounds_comm _ _ Mp];exact h3.2.2
def YS(S:Ez):SL:=S.map λp=>(p.1,λw=>yU w p.2.1 p.2.2)
def V4(o:Oper)(S:Ez):YS (stays o S)=yN o (YS S):=by
 induction S with
 |nil=>rfl
 |cons p S ih=>
  simp only[YS,stays,yN,dx,List.filter_cons] at ih⊢;cases waits o p.1<;>simp[ih]
def Me:∀{S:Ez} {K:WK} {w:World},mw S K w->(∀p∈YS S,p.2 w)/\K w
 |[],_,_,h=>⟨by simp[YS],h⟩
 |(i,b,cs)::S,K,w,h=>by
  obtain⟨h1,h2⟩:=h;obtain⟨h3,h4⟩:=Me h2;refine⟨λp hp=>?_,h4⟩;simp only[YS,dx,ka] at hp;rcases hp with rfl|hp
  ·exact h1
  ·exact h3 p hp
def M8:∀{l:List Nat} {f:Nat->WK} {w:World},acf l f w->∀i∈l,f i w
 |[],_,_,_,i,hi=>by simp at hi
 |[j],f,w,h,i,hi=>by simp at hi;subst hi;exact h
 |j::k::r,f,w,h,i,hi=>by
  rcases ka.1 hi with rfl|hi
  ·exact h.1
  ·exact M8 (l:=k::r) h.2 i hi
def Uc(hE:sj F.P F.E)(hs:Sub F.n e a){i:Nat}{o:Oper}{S:Ez}{K:Ez->VK}(hq:Nat.blt (cls F.P o.op) 2=true)(h:XK F e i o S K w)(hS:∀p∈YS S,p.2 w):
 ∃v Y S',(∀w',Y w'->(execOp a.eval o).run F.P w'=.ok (.value v) w')/\Y w/\K S' v w/\(∀p∈YS S',p.2 w)/\(∀p∈(i,Y)::YS S,p∈YS S'\/∀w,p.2 w):=by
 rw[Nat.blt_eq] at hq;by_cases hc:cls F.P o.op=0
 ·have:zv F.P F.T F.E e o.op o.type (K S) w:=by
   unfold XK at h;generalize WG:o.op=op at h;split at h
   ·rw[WG] at hc;simp[cls] at hc
   ·exact h
  obtain⟨v,hr,hk⟩:=Gh hE hs hc this;exact⟨v,λ_=>True,S,λw' _=>hr w',trivial,hk,hS,λp hp=>by
   rcases ka.1 hp with rfl|hp
   ·exact .inr λ_=>trivial
   ·exact .inl hp⟩
 ·have h1:cls F.P o.op=1:=by omega
  obtain⟨dst,op,ty,pos,after,guard⟩:=o;simp only at h1;have:∃t x,op=.load t x:=by
   cases op<;>simp only[cls] at h1<;>first
    |exact⟨_,_,rfl⟩
    |(exfalso;omega)
    |(exfalso;revert h1;split<;>omega)
    |(exfalso;revert h1;split<;>(try split)<;>omega)
    |(exfalso;revert h1;repeat' split
      all_goals omega)
  obtain⟨t,x,rfl⟩:=this;simp only[XK] at h;cases hx:ev e x with
  |none=>simp only[hx,no] at h
  |some v=>
   cases v<;>simp only[hx,no] at h
   rename_i p;cases p with
   |none=>exact h.elim
   |some p=>
    simp only at h;obtain⟨v,cs,hH,hr,hk⟩:=yg h;refine⟨v,λw'=>yU w' p cs,(i,p,cs)::S,λw' SS=>?_,hH,hk,λq hq=>?_,λq hq=>.inl (by simpa [YS] using hq)⟩
    ·simp only[execOp,hs.eval hx];simp[Instr.loadAt,Instr.sureAddr,hr w' SS]
    ·simp only[YS,dx,ka] at hq;rcases hq with rfl|hq
     ·exact hH
     ·exact hS q hq
def rC(hF:Ok F)(C':Region.noSelect ops=true){Q:Exit->Act->World->Prop}(hQ:∀c a w,¬Q (.panic c) a w){K:Env->WK}(hK:∀e a w,S2 F e a->K e w->Q .normal a w):
 ∀(f:Nat)(listed:Array Bool)(S:Ez)(e:Env)(a:Act)(w:World),S2 F e a->(∀p∈YS S,p.2 w)->wx F ops K f listed S e w->wpAnyS F.P ops Q f (YS S) listed a w
 |0,listed,S,e,a,w,hs,hS,h=>by
  simp only[wx] at h;cases hr:Region.ready .any ops listed with
  |nil=>simp only[hr] at h;exact⟨hr,hK e a w hs h⟩
  |cons r rs=>simp only[hr,no] at h
 |f+1,listed,S,e,a,w,hs,hS,h=>by
  simp only[wx] at h;cases hr:Region.ready .any ops listed with
  |nil=>
   simp only[hr] at h;exact⟨λ_=>hK e a w hs h,λi hi=>by rw[hr] at hi;simp at hi⟩
  |cons r rs=>
   simp only[hr] at h;cases hf:(r::rs).find? (quietAt F.P ops) with
   |some i=>
    simp only[hf] at h;have pU:i∈Region.ready .any ops listed:=by rw[hr];exact nD hf
    have US:=List.find?_some hf;cases ho:ops[i]? with
    |none=>simp only[ho,no] at h
    |some o=>
     simp only[ho] at h;simp only[quietAt,ho] at US;cases I8:Region.free .any ops listed i with
     |false=>simp only[I8,cond_false,no] at h
     |true=>
      simp only[I8,cond_true] at h;have Cj:=Region.free_spec ho I8;refine tV (F:=F) hs h (λe' fF hw pT=>?_) (λe' fF hw pT=>?_)
      ·obtain⟨v,Y,S',hy,hY,hk,hS',abo⟩:=Uc hF.eqs fF.1 US pT hS;obtain⟨Vq,yY,hk⟩:=vA fF hk;have ih:=rC hF C' hQ hK f _ S' Vq _ w yY hS' hk;exact wpAnyS_first ho (Region.noSelect_spec C') (λc a w h=>(hQ _ _ _ h).elim) f (YS S) listed a w Cj pU (.inl ⟨hw,hy⟩) hY hS (tY _ _ _ _ _ _ abo ih)
      ·obtain⟨Vq,yY,hk⟩:=vA fF pT;have ih:=rC hF C' hQ hK f _ S Vq _ w yY hS hk;refine wpAnyS_first (Y:=λ_=>True) ho (Region.noSelect_spec C') (λc a w h=>(hQ _ _ _ h).elim) f (YS S) listed a w Cj pU (.inr ⟨hw,rfl⟩) trivial hS
        (tY _ _ _ _ _ _ (λp hp=>by
         rcases ka.1 hp with rfl|hp
         ·exact .inr λ_=>trivial
         ·exact .inl hp) ih)
   |none=>
    simp only[hf] at h;refine⟨λh0=>(by rw[hr] at h0;cases h0),λi hi o ho=>?_⟩;have vV:=M8 h i (by rw[<-hr];exact hi);simp only[ho] at vV;unfold wpOp;simp only[ho];refine tV (F:=F) hs vV (λe' fF hw pT=>?_) (λe' fF hw pT=>?_)
    ·rw[ai hw];refine .inl (K1 (Gg hF.eqs hF.Ij fF.1 pT) λv w' hv=>?_);obtain⟨hk,hv⟩:=Me hv;obtain⟨Vq,yY,Bt⟩:=vA fF hv;rw[<-V4];exact⟨hk,rC hF C' hQ hK f _ _ Vq _ w' yY hk Bt⟩
    ·rw[ag (by rw[hw];exact cO)];obtain⟨Vq,yY,Bt⟩:=vA fF pT;have ih:=rC hF C' hQ hK f _ S Vq _ w yY hS Bt;refine⟨λp hp=>hS p (Bn.1 hp).1,tY _ _ _ _ _ _ (λp hp=>.inl (Bn.1 hp).1) ih⟩
def ox{n:Nat}{e:Env}{a:Act}(hs:Sub n e a):∀{l:List (Nat×Value)} {vs:LV},xf e l=some vs->
 (∀t v,lk (Bx l vs []) t=some v->a.tmps[t]?=some v)/\vs=l.map (λp=>a.tmps.getD p.1 undef)/\(∀f,G' (l.map (·.2)) f->f vs)
 |[],vs,h=>by
  simp only[xf,bA.injEq] at h;subst h;exact⟨λt v h=>by simp[Bx,lk] at h,rfl,λf h=>h⟩
 |(t,z)::l,vs,h=>by
  simp only[xf] at h;cases h1:lk e t with
  |none=>simp[h1] at h
  |some v=>
   simp only[h1] at h;cases h2:fits z v with
   |false=>simp[h2] at h
   |true=>
    simp only[h2,cond_true] at h;cases h3:xf e l with
    |none=>simp[h3] at h
    |some us=>
     simp only[h3,bA.injEq] at h;subst h;obtain⟨i1,i2,i3⟩:=ox hs h3;refine⟨λs u hsu=>?_,?_,λf hf=>?_⟩
     ·simp only[Bx,yh] at hsu;split at hsu
      ·rename_i KV;subst KV;cases hsu;exact hs.get _ _ h1
      ·exact i1 s u hsu
     ·simp only[dx,<-i2];have:=hs.get t v h1;rw[Array.getD_eq_getD_getElem?,this];rfl
     ·simp only[dx,G'] at hf;have key:G' (l.map (·.2)) λvs=>f (v::vs):=by
       cases z<;>cases v<;>simp only[fits,cM,decide_eq_true_eq] at h2<;>simp only[aeR] at hf<;>first
        |(rename_i p q;cases p<;>cases q<;>simp only[fits,cM] at h2<;>exact hf _)
        |exact hf _
        |exact hf _ _ _
        |(subst h2;exact hf _)
        |(rename_i cs;exact hf cs.toList)
      exact i3 _ key
def Qb:∀(l:List (Nat×Value))(vs:LV)(C:Env)(t:Nat)(v:Value),lk (Bx l vs C) t=some v->lk (Bx l vs []) t=some v\/lk C t=some v
 |[],vs,C,t,v,h=>by cases vs<;>(simp only[Bx] at h;exact .inr h)
 |(s,z)::l,[],C,t,v,h=>by simp only[Bx] at h;exact .inr h
 |(s,z)::l,u::vs,C,t,v,h=>by
  simp only[Bx,yh] at h⊢;split at h
  ·rename_i tr;rw[ai tr];exact .inl h
  ·rename_i tr;rw[ag tr];exact Qb l vs C t v h
def S2.zip(hs:S2 F e a){l:List (Nat×Value)}{vs:LV}(h:xf e l=some vs):S2 F (Bx l vs F.C) a:=by
 refine⟨⟨hs.1.size,hs.1.defers,λt v ht=>?_⟩,hs.2⟩;rcases Qb l vs F.C t v ht with h'|h'
 ·exact(ox hs.1 h).1 t v h'
 ·exact hs.2.get t v h'
def Sm(hF:Ok F):∀(c:Code)(Q:Exit->Env->WK)(e:Env)(a:Act)(w:World),S2 F e a->den F c Q e w->c.wp F.P (QS F Q) a w:=by
 intro c
 induction c with
 |skip=>intro Q e a w hs h;exact wp_skip ⟨⟨e,hs,h⟩,by simp⟩
 |ret=>intro Q e a w hs h;exact wp_ret ⟨⟨e,hs,h⟩,by simp⟩
 |exit i=>intro Q e a w hs h;exact wp_exit ⟨⟨e,hs,h⟩,by simp⟩
 |seq x y ihx ihy=>
  intro Q e a w hs h;refine wp_seq (wp_mono (ihx _ e a w hs h) ?_);rintro ex a' w' ⟨⟨e',fF,hq⟩,hp⟩;cases ex<;>simp only[Ra] at hq
  case normal=>exact ihy Q e' a' w' fF hq
  all_goals exact⟨⟨e',fF,hq⟩,hp⟩
 |cond x c1 c2 ih1 WA=>
  intro Q e a w hs h;simp only[den] at h;cases hx:ev e x with
  |none=>simp only[hx,no] at h
  |some v=>
   cases v<;>simp only[hx,no] at h
   rename_i b;cases b with
   |true=>exact wp_cond_true (hs.1.eval hx) (ih1 Q e a w hs h)
   |false=>exact wp_cond_false (hs.1.eval hx) (WA Q e a w hs h)
 |block i c ih=>
  intro Q e a w hs h;refine wp_block (wp_mono (ih _ e a w hs h) ?_);rintro ex a' w' ⟨⟨e',fF,hq⟩,hp⟩;cases ex<;>simp only[OU] at hq
  case exit j=>
   simp only[Exit.inBlock];cases hb:iB j i with
   |true=>rw[ai (eS hb)];simp only[hb,cond_true] at hq;exact⟨⟨e',fF,hq⟩,by simp⟩
   |false=>
    have kJ:j≠i:=λh=>by simp[h] at hb
    rw[ag kJ];simp only[hb,cond_false] at hq;exact⟨⟨e',fF,hq⟩,by simp⟩
  all_goals exact⟨⟨e',fF,hq⟩,hp⟩
 |loop c ih=>
  intro Q e a w hs h;simp only[den] at h;cases hl:QU F.Kv (key c) with
  |none=>simp only[hl,no] at h
  |some l=>
   simp only[hl] at h;cases hv:xf e l with
   |none=>simp only[hv,no] at h
   |some vs=>
    simp only[hv] at h;obtain⟨I,μ,h0,On⟩:=h;have UQ:=(ox hs.1 hv).2.1;refine wp_loop (λa w=>S2 F (Bx l (l.map λp=>a.tmps.getD p.1 undef) F.C) a/\I (l.map λp=>a.tmps.getD p.1 undef) w/\∀f,G' (l.map (·.2)) f->f (l.map λp=>a.tmps.getD p.1 undef))
     (λa w=>μ (l.map λp=>a.tmps.getD p.1 undef) w) ?_ ?_
    ·rw[<-UQ];exact⟨hs.zip hv,h0,(ox hs.1 hv).2.2⟩
    ·intro a1 w1 ⟨Bs,hI1,fI⟩;have hr:=fI _ On w1 hI1;apply wp_mono (ih _ _ a1 w1 Bs hr);rintro ex a' w' ⟨⟨e',fF,hq⟩,hp⟩;cases ex<;>simp only[Ra] at hq
     case normal=>
      simp only[UE] at hq;cases DR:xf e' l with
      |none=>simp only[DR,no] at hq
      |some Hm=>
       simp only[DR] at hq;have Oo:=(ox fF.1 DR).2.1;simp only[Exit.then];rw[<-Oo];exact⟨⟨fF.zip DR,hq.1,(ox fF.1 DR).2.2⟩,hq.2⟩
     all_goals exact⟨⟨e',fF,hq⟩,hp⟩
 |region id ops draw=>
  intro Q e a w hs h;simp only[den] at h;cases draw with
  |true=>
   simp only[cond_true] at h;cases C':Region.noSelect ops with
   |false=>simp only[C',cond_false,no] at h
   |true=>
    simp only[C',cond_true,tick] at h;apply wp_region_any hF.mixed;rw[World.drew_eq];exact Fk _ _ _ _ _ (rC hF C' (λc a w=>We) (λe a w hs hk=>⟨⟨e,hs,hk⟩,by simp⟩) _ _ [] e a _ hs (by simp[YS]) h)
  |false=>
   simp only[cond_false] at h;refine wp_region (BJ hF (λe a w hs hk=>⟨⟨e,hs,hk⟩,by simp⟩) (qk ops.size) ops.toList e a w (by simp) (λk i hk=>?_) hs h);rw[rL] at hk
   ·simp only[bA.injEq] at hk;subst hk;simp
   ·have:=(ar.1 hk).1;simpa using this
 |_=>intro Q e a w hs h;exact h.elim
def Ri(P:Program)(e:Env):List ResultVar->(LV->WK)->WK
 |[],K=>K []
 | .tmp t::r,K=>match lk e t with
   |some v=>Ri P e r λvs=>K (v::vs)
   |none=>no
 | .cell b t::r,K=>match lk e b with
   |some (.pointer (some a))=>Ca P t a λ_ v=>Ri P e r λvs=>K (v::vs)
   |_=>no
def aa4(vs:LV):Value:=match vs with|[v]=>v|vs=>.tuple ⟨vs⟩
def aa5(P:Program)(rs:List ResultVar)(K:VK)(e:Env):WK:=Ri P e rs λvs=>K (aa4 vs)
def ae7(P:Program)(rs:List ResultVar)(K:VK):Exit->Env->WK
 | .normal,e=>aa5 P rs K e
 | .ret,e=>aa5 P rs K e
 |_,_=>no
def AQ(J5:List Nat)(want:Bool):Nat->LV->Env
 |_,[]=>[]
 |i,v::vs=>bif OX (J5.any (iB i)) want then(i,v)::AQ J5 want (i+1) vs else AQ J5 want (i+1) vs
def L8(m:List Nat)(b:Bool):∀(vs:LV)(i t:Nat)(v:Value),lk (AQ m b i vs) t=some v->i<=t/\vs[t-i]?=some v
 |[],i,t,v,h=>by simp[AQ,lk] at h
 |u::vs,i,t,v,h=>by
  simp only[AQ] at h;have rest:lk (AQ m b (i+1) vs) t=some v->i<=t/\(u::vs)[t-i]?=some v:=λh=>by
   obtain⟨h1,h2⟩:=L8 m b vs (i+1) t v h;refine⟨by omega,?_⟩;rw[show t-i=(t-(i+1))+1 from by omega];simpa using h2
  cases hb:OX (m.any (iB i)) b with
  |false=>simp only[hb,cond_false] at h;exact rest h
  |true=>
   simp only[hb,cond_true,yh] at h;split at h
   ·rename_i hit;subst hit;cases h;exact⟨aI _,by simp⟩
   ·exact rest h
def IQ:∀(e f:Env)(t:Nat)(v:Value),lk (e++f) t=some v->lk e t=some v\/lk f t=some v
 |[],f,t,v,h=>.inr h
 |(s,u)::e,f,t,v,h=>by
  simp only[lY,yh] at h⊢;split at h
  ·rename_i hs;rw[ai hs];exact .inl h
  ·rename_i hs;rw[ag hs];exact IQ e f t v h
def Rl(tm:Array Value):ResultVar->Sem Value
 | .tmp t=>pure (tm.getD t undef)
 | .cell b t=>do loadVar t (<-asAddr (tm.getD b undef))
def N2(fn:Func)(tm:Array Value):results fn tm=(do let vs<-fn.results.mapM (Rl tm);pure (if h:vs.size=1 then vs[0] else .tuple vs)):=by
 unfold results
 congr 1
def CU{n:Nat}{e:Env}{a:Act}(hs:Sub n e a):∀{rs:List ResultVar} {K:LV->WK},Ri P e rs K w->∃vs,(rs.mapM (Rl a.tmps)).run P w=.ok vs w/\K vs w
 |[],K,h=>⟨[],rfl,h⟩
 | .cell b t::r,K,h=>by
   simp only[Ri] at h;cases h1:lk e b with
   |none=>simp only[h1,no] at h
   |some v=>
    cases v<;>simp only[h1,no] at h
    rename_i p;cases p with
    |none=>exact h.elim
    |some p=>
     simp only at h;obtain⟨v,cs,hH,hr,hk⟩:=yg h;obtain⟨vs,h2,hk⟩:=CU hs hk;have hg:a.tmps.getD b undef=.pointer (some p):=by rw[Array.getD_eq_getD_getElem?,hs.get b _ h1];rfl
     refine⟨v::vs,?_,hk⟩;have h3:(Rl a.tmps (.cell b t)).run P w=.ok v w:=by
      simp only[Rl,hg,asAddr,pure_bind];exact hr w hH
     rw[List.mapM_cons,Sem.run_bind,h3,Result.andThen_ok,Sem.run_bind,h2];rfl
 | .tmp t::r,K,h=>by
   simp only[Ri] at h;cases h1:lk e t with
   |none=>simp only[h1,no] at h
   |some v=>
    simp only[h1] at h;obtain⟨vs,h2,hk⟩:=CU hs h;have hg:a.tmps.getD t undef=v:=by rw[Array.getD_eq_getD_getElem?,hs.get t v h1];rfl
    refine⟨v::vs,?_,hk⟩;rw[List.mapM_cons,Sem.run_bind,Rl,Sem.run_pure,Result.andThen_ok,Sem.run_bind,h2,hg];rfl
def body(P:Program)(T:Hr)(E:Td)(n:Nat)(m:List Nat)(Kv:List (Nat×List (Nat×Value)))(rs:List ResultVar)(c:Code):WP:=λargs K=>
 den ⟨P,T,E,n,AQ m false 0 args,Kv⟩ c (ae7 P rs K) (AQ m true 0 args++AQ m false 0 args)
def Vh{P:Program}{T:Hr}{E:Td}{g:Nat}{fn:Func}{c:Code}{p:WP}(m:List Nat)(Kv:List (Nat×List (Nat×Value)))(hT:oE P T)(hE:sj P E)(hm:P.follows .mixedOrders=true)
 (hf:P.funcs[g]?=some fn)(hb:fn.body=some c)(adu:(fn.name== "runtime.NumGoroutine")=false)(hp:∀args K w,p args K w->args.length<=fn.ntmps/\body P T E fn.ntmps m Kv fn.results.toList c args K w):aE P g p:=by
 refine⟨⟨fn,hf,adu,by rw[hb];rfl⟩,λargs K w h=>?_⟩;obtain⟨hlen,h⟩:=hp args K w h;apply calls_of_wp hf hb;have qc:(⟨args⟩++jL (fn.ntmps-(⟨args⟩:Array Value).size) undef:Array Value).size=fn.ntmps:=by
  simp;omega
 have Ci:∀(b:Bool) t v,lk (AQ m b 0 args) t=some v->(⟨args⟩++jL (fn.ntmps-(⟨args⟩:Array Value).size) undef:Array Value)[t]?=some v:=λb t v ht=>by
  obtain⟨_,h2⟩:=L8 m b args 0 t v ht;simp only[Nat.sub_zero] at h2;have cn:t<args.length:=(ar.1 h2).1;rw[Array.getElem?_append_left (by simpa using cn)];simpa using h2
 refine wp_mono (Sm ⟨hT,hE,hm⟩ c _ _ ⟨⟨args⟩++jL (fn.ntmps-(⟨args⟩:Array Value).size) undef,[]⟩ w ⟨⟨qc,rfl,λt v ht=>?_⟩,⟨qc,rfl,λt v ht=>Ci false t v ht⟩⟩ h) ?_
 ·rcases IQ _ _ t v ht with h'|h'
  ·exact Ci true t v h'
  ·exact Ci false t v h'
 ·rintro ex a' w' ⟨⟨e',fF,hq⟩,hpn⟩;have fin:aa5 P fn.results.toList K e' w'->a'.defers=[]/\∃v,(results fn a'.tmps).run P w'=.ok v w'/\∃u,(Ending.returned v)=.returned u/\K u w':=by
   intro hr;obtain⟨vs,this,hk⟩:=CU fF.1 hr;refine⟨fF.1.defers,aa4 vs,?_,_,rfl,hk⟩;have KX:(fn.results.mapM (Rl a'.tmps)).run P w'=.ok ⟨vs⟩ w':=by
    rw[<-Array.toArray_toList (xs:=fn.results),List.mapM_toArray,Sem.run_map,this];rfl
   rw[N2,Sem.run_bind,KX];simp only[Result.andThen_ok,Sem.run_pure]
   congr 1
   unfold aa4;cases vs with
   |nil=>rfl
   |cons v vs=>
    cases vs with
    |nil=>rfl
    |cons u vs=>simp
  cases ex with
  |normal=>exact fin hq
  |ret=>exact fin hq
  |exit i=>exact hq.elim
  |goto i=>exact hq.elim
  |panic c=>exact aT rfl (hpn c)
  |outgrown=>exact hq.elim
end
end Go.Den
namespace Go.Sep
open Go.Den Go.RowKit
inductive Te where
 |cells(cs:LV)
 |obj(o:Obj)
abbrev HP:=(Nat->Option Te)->Prop
abbrev LH:=List HP
def view(w:World)(b:Nat):Option Te:=
 match w.heap[b]? with
 |some (.cells c _ fz)=>if c.size<=fz.1\/fz.2=0 then some (.cells c.toList) else none
 |some o=>some (.obj o)
 |none=>none
def sep(A B:HP):HP:=λh=>∃h1 h2,(∀b,h1 b=none\/h2 b=none)/\(∀b,h b=(h1 b).or (h2 b))/\A h1/\B h2
def wM:LH->HP
 |[]=>λ_=>True
 |A::L=>sep A (wM L)
def pt(b:Nat)(cs:LV):HP:=λh=>h b=some (.cells cs)
def ob(b:Nat)(o:Obj):HP:=λh=>h b=some (.obj o)
def S8{α:Type}(f:α->HP):HP:=λh=>∃x,f x h
def G9(p:Prop)(A:HP):HP:=λh=>p/\A h
def St(W w:World)(L:LH):Prop:=Below W.heap.size W w/\∃h,wM L h/\∀b cs,h b=some cs->W.heap.size<=b/\view w b=some cs
def BK{A B:HP}{h:Nat->Option Te}(x:sep A B h):sep B A h:=by
 obtain⟨h1,h2,hd,hu,ha,hb⟩:=x;refine⟨h2,h1,λb=>(hd b).symm,λb=>?_,hb,ha⟩;rw[hu b];rcases hd b with h|h<;>simp[h]
def zY{A B C:HP}{h:Nat->Option Te}(x:sep (sep A B) C h):sep A (sep B C) h:=by
 obtain⟨nu,h3,hd,hu,⟨h1,h2,hd',hu',ha,hb⟩,hc⟩:=x;refine⟨h1,λb=>(h2 b).or (h3 b),λb=>?_,λb=>?_,ha,h2,h3,λb=>?_,λb=>rfl,hb,hc⟩
 ·rcases hd' b with h|h
  ·exact .inl h
  ·rcases hd b with g|g
   ·rw[hu' b,h] at g;left;simpa using g
   ·right;simp[h,g]
 ·rw[hu b,hu' b];simp[Option.or_assoc]
 ·rcases hd b with g|g
  ·rw[hu' b] at g;simp at g;exact .inl g.2
  ·exact .inr g
def FN{A B C:HP}{h:Nat->Option Te}(x:sep A (sep B C) h):sep (sep A B) C h:=
 BK (zY (BK (zY (BK x))))
def FM{A B A' B':HP}{h:Nat->Option Te}(x:sep A B h)(ha:∀g,A g->A' g)(hb:∀g,B g->B' g):sep A' B' h:=by
 obtain⟨h1,h2,hd,hu,a,b⟩:=x;exact⟨h1,h2,hd,hu,ha _ a,hb _ b⟩
def Rb{L M:LH}(p:L.Perm M):∀h,wM L h->wM M h:=by
 induction p with
 |nil=>exact λh x=>x
 |cons A _ ih=>exact λh x=>FM x (λ_ a=>a) ih
 |swap A B l=>exact λh x=>zY (FM (FN x) (λ_ y=>BK y) λ_ y=>y)
 |trans _ _ ih1 WA=>exact λh x=>WA h (ih1 h x)
def St.perm{W w:World}{L M:LH}(h:St W w L)(p:L.Perm M):St W w M:=
 let⟨hb,g,hs,hv⟩:=h;⟨hb,g,Rb p g hs,hv⟩
def tW{α:Type}:∀{L:List α} {k:Nat} {A:α},L[k]?=some A->L.Perm (A::L.eraseIdx k)
 |[],k,A,h=>by simp at h
 |B::L,0,A,h=>by simp at h;subst h;simp
 |B::L,k+1,A,h=>by
  simp only[bX] at h;exact((tW h).cons B).trans (cf.swap _ _ _)
def set_perm{α:Type}:∀{L:List α} {k:Nat} {A B:α},L[k]?=some A->(B::L.eraseIdx k).Perm (L.set k B)
 |[],k,A,B,h=>by simp at h
 |C::L,0,A,B,h=>by simp
 |C::L,k+1,A,B,h=>by
  simp only[bX] at h;exact(cf.swap _ _ _).trans ((set_perm h).cons C)
def St.focus{W w:World}{L:LH}{k:Nat}{A:HP}(h:St W w L)(hk:L[k]?=some A):St W w (A::L.eraseIdx k):=h.perm (tW hk)
def St.ss{W w:World}{L:LH}{k:Nat}{A B:HP}(h:St W w (B::L.eraseIdx k))(hk:L[k]?=some A):St W w (L.set k B):=h.perm (set_perm hk)
def St.drop{W w:World}{A:HP}{L:LH}(h:St W w (A::L)):St W w L:=by
 obtain⟨hb,g,⟨h1,h2,hd,hu,ha,hl⟩,hv⟩:=h;refine⟨hb,h2,hl,λb cs Nv=>hv b cs ?_⟩;rw[hu b];rcases hd b with h|h
 ·simp[h,Nv]
 ·rw[h] at Nv;cases Nv
def St.mono{W w:World}{A B:HP}{L:LH}(h:St W w (A::L))(WS:∀g,A g->B g):St W w (B::L):=
 let⟨hb,g,hs,hv⟩:=h;⟨hb,g,FM hs WS λ_ y=>y,hv⟩
def St.ex{α:Type}{W w:World}{f:α->HP}{L:LH}(h:St W w (S8 f::L)):∃x,St W w (f x::L):=by
 obtain⟨hb,g,⟨h1,h2,hd,hu,⟨x,hx⟩,hl⟩,hv⟩:=h;exact⟨x,hb,g,⟨h1,h2,hd,hu,hx,hl⟩,hv⟩
def St.rA{α:Type}{W w:World}{f:α->HP}{L:LH}(x:α)(h:St W w (f x::L)):St W w (S8 f::L):=h.mono λ_ hx=>⟨x,hx⟩
def St.and{W w:World}{p:Prop}{A:HP}{L:LH}(h:St W w (G9 p A::L)):p/\St W w (A::L):=by
 obtain⟨hb,g,⟨h1,h2,hd,hu,⟨hp,hx⟩,hl⟩,hv⟩:=h;exact⟨hp,hb,g,⟨h1,h2,hd,hu,hx,hl⟩,hv⟩
def St.and_intro{W w:World}{p:Prop}{A:HP}{L:LH}(hp:p)(h:St W w (A::L)):St W w (G9 p A::L):=h.mono λ_ hx=>⟨hp,hx⟩
def St.split{W w:World}{A B:HP}{L:LH}(h:St W w (sep A B::L)):St W w (A::B::L):=
 let⟨hb,g,hs,hv⟩:=h;⟨hb,g,zY hs,hv⟩
def St.join{W w:World}{A B:HP}{L:LH}(h:St W w (A::B::L)):St W w (sep A B::L):=
 let⟨hb,g,hs,hv⟩:=h;⟨hb,g,FN hs,hv⟩
def St.below{W w:World}{L:LH}(h:St W w L):Below W.heap.size W w:=h.1
def BC{w:World}{b:Nat}{x:Te}(h:view w b=some x):b<w.heap.size:=by
 unfold view at h;cases hb:w.heap[b]? with
 |none=>simp[hb] at h
 |some x=>exact(Array.getElem?_eq_some_iff.1 hb).1
def Q3{w:World}{b o:Nat}{cs:LV}(h:view w b=some (.cells cs)):w.cell? ⟨b,o,none⟩=cs[o]?/\(o<cs.length->w.frozen? ⟨b,o,none⟩=false)/\b<w.heap.size:=by
 have cn:=BC h;unfold view at h;cases hb:w.heap[b]? with
 |none=>simp[hb] at h
 |some x=>
  cases x<;>simp only[hb,reduceCtorEq,bA.injEq] at h
  rename_i c e fz;split at h
  ·rename_i hfz;simp only[bA.injEq,Te.cells.injEq] at h;subst h;refine⟨by simp[World.cell?,hb],λho=>?_,cn⟩;simp only[World.frozen?,hb];obtain⟨lo,hi⟩:=fz;simp at hfz ho⊢;omega
  ·cases h
def Tq{w:World}{b:Nat}{o:Obj}(h:view w b=some (.obj o)):w.heap[b]?=some o:=by
 unfold view at h;cases hb:w.heap[b]? with
 |none=>simp[hb] at h
 |some x=>
  cases x<;>simp only[hb,bA.injEq,Te.obj.injEq] at h<;>first|(subst h;rfl)|(split at h<;>cases h)
def St.cell{W w:World}{L:LH}{k b o:Nat}{cs:LV}(h:St W w L)(hk:L[k]?=some (pt b cs)):
 w.cell? ⟨b,o,none⟩=cs[o]?/\(o<cs.length->w.frozen? ⟨b,o,none⟩=false)/\b<w.heap.size/\W.heap.size<=b:=by
 obtain⟨hb,g,⟨h1,h2,hd,hu,ha,hl⟩,hv⟩:=h.focus hk;have hg:g b=some (.cells cs):=by rw[hu b];simp only[pt] at ha;simp[ha]
 obtain⟨h3,h4⟩:=hv b _ hg;obtain⟨h5,h6,h7⟩:=Q3 (o:=o) h4;exact⟨h5,h6,h7,h3⟩
def St.obj{W w:World}{L:LH}{k b:Nat}{o:Obj}(h:St W w L)(hk:L[k]?=some (ob b o)):w.heap[b]?=some o/\W.heap.size<=b:=by
 obtain⟨hb,g,⟨h1,h2,hd,hu,ha,hl⟩,hv⟩:=h.focus hk;have hg:g b=some (.obj o):=by rw[hu b];simp only[ob] at ha;simp[ha]
 obtain⟨h3,h4⟩:=hv b _ hg;exact⟨Tq h4,h3⟩
def BB{w:World}{b o:Nat}{cs:LV}{v:Value}(h:view w b=some (.cells cs)):view (w.setCell ⟨b,o,none⟩ v) b=some (.cells (cs.set o v)):=by
 unfold view at h⊢;cases hb:w.heap[b]? with
 |none=>simp[hb] at h
 |some x=>
  cases x<;>simp only[hb,reduceCtorEq,bA.injEq] at h
  rename_i c e fz;have:(w.setCell ⟨b,o,none⟩ v).heap[b]?=some (.cells (c.setIfInBounds o v) e fz):=by
   simp[World.setCell,Array.getElem?_modify,hb]
  simp only[this,Array.size_setIfInBounds];split at h
  ·rename_i hfz;simp only[bA.injEq,Te.cells.injEq] at h;subst h;rw[ai hfz];simp
  ·cases h
def xQ{w w':World}{b:Nat}(h:w'.heap[b]?=w.heap[b]?):view w' b=view w b:=by unfold view;rw[h]
def St.ZH{W w w':World}{L:LH}{k b:Nat}{x x':Te}(h:St W w L)(hk:L[k]?=some (λh=>h b=some x))(hb:Below W.heap.size W w')
 (DR:view w' b=some x')(ho:∀j,j≠b->j<w.heap.size->w'.heap[j]?=w.heap[j]?):St W w' (L.set k (λh=>h b=some x')):=by
 refine St.ss (A:=λh=>h b=some x) ?_ hk;obtain⟨_,g,⟨h1,h2,hd,hu,ha,hl⟩,hv⟩:=h.focus hk;have iZ:W.heap.size<=b:=(hv b x (by rw[hu b];simp[ha])).1;refine⟨hb,λj=>if j=b then some x' else g j,⟨λj=>if j=b then some x' else h1 j,h2,λj=>?_,λj=>?_,by simp,hl⟩,λj ds hj=>?_⟩
 ·by_cases e:j=b
  ·subst e;right;rcases hd j with h|h
   ·rw[h] at ha;cases ha
   ·exact h
  ·simpa [e] using hd j
 ·by_cases e:j=b
  ·subst e;simp
  ·simp[e,hu j]
 ·by_cases e:j=b
  ·subst e;simp at hj;subst hj;exact⟨iZ,DR⟩
  ·simp[e] at hj;obtain⟨h3,h4⟩:=hv j ds hj;have cn:j<w.heap.size:=BC h4;exact⟨h3,by rw[xQ (ho j e cn)];exact h4⟩
def St.bu{W w w':World}{L:LH}{k b:Nat}{cs xd:LV}(h:St W w L)(hk:L[k]?=some (pt b cs))(hb:Below W.heap.size W w')
 (DR:view w' b=some (.cells xd))(ho:∀j,j≠b->j<w.heap.size->w'.heap[j]?=w.heap[j]?):St W w' (L.set k (pt b xd)):=h.ZH hk hb DR ho
def St.set{W w:World}{L:LH}{k b o:Nat}{cs:LV}(v:Value)(h:St W w L)(hk:L[k]?=some (pt b cs)):St W (w.setCell ⟨b,o,none⟩ v) (L.set k (pt b (cs.set o v))):=by
 have hc:=h.cell (o:=o) hk;obtain⟨_,g,⟨h1,h2,hd,hu,ha,hl⟩,hv⟩:=h.focus hk;have hvw:=(hv b (.cells cs) (by rw[hu b];simp only[pt] at ha;simp[ha])).2;exact h.bu hk (h.1.setCell (p:=⟨b,o,none⟩) hc.2.2.2 v) (BB hvw) (λj hj _=>Below.heap_setCell w ⟨b,o,none⟩ v j hj)
def NH{w:World}{cs:LV}{t:TypeId}:view (w.alloc (.cells ⟨cs⟩ t)) w.heap.size=some (.cells cs):=by
 have:(w.alloc (.cells ⟨cs⟩ t)).heap[w.heap.size]?=some (.cells ⟨cs⟩ t):=by
  show(w.heap.push (.cells ⟨cs⟩ t))[w.heap.size]?=_;rw[Array.getElem?_push_size]
 unfold view;rw[this];simp
def St.ac3{W w:World}{L:LH}(h:St W w L)(o:Obj){x:Te}(hx:view (w.alloc o) w.heap.size=some x):St W (w.alloc o) ((λh=>h w.heap.size=some x)::L):=by
 obtain⟨hb,g,hs,hv⟩:=h;have hle:=hb.size;have Ou:g w.heap.size=none:=by
  cases hg:g w.heap.size with
  |none=>rfl
  |some ds=>exact aT (BC (hv _ _ hg).2) (by omega)
 refine⟨hb.alloc hle _,λj=>if j=w.heap.size then some x else g j,⟨λj=>if j=w.heap.size then some x else none,g,λj=>?_,λj=>?_,by simp,hs⟩,λj ds hj=>?_⟩
 ·by_cases e:j=w.heap.size
  ·subst e;exact .inr Ou
  ·simp[e]
 ·by_cases e:j=w.heap.size
  ·subst e;simp
  ·simp[e]
 ·by_cases e:j=w.heap.size
  ·subst e;simp at hj;subst hj;exact⟨hle,hx⟩
  ·simp[e] at hj;obtain⟨h3,h4⟩:=hv j ds hj;exact⟨h3,by rw[xQ (Below.heap_alloc w _ j (BC h4))];exact h4⟩
def St.new{W w:World}{L:LH}(h:St W w L)(cs:LV)(t:TypeId):St W (w.alloc (.cells ⟨cs⟩ t)) (pt w.heap.size cs::L):=h.ac3 _ NH
def St.drew{W w:World}{L:LH}(h:St W w L):St W w.drew L:=
 let⟨hb,g,hs,hv⟩:=h;⟨hb.drew,g,hs,hv⟩
def St.uB{W w w':World}{L:LH}(h:St W w L)(hb:Below w.heap.size w w'):St W w' L:=by
 obtain⟨hB,g,hs,hv⟩:=h;refine⟨hB.trans (hb.mono hB.size),g,hs,λb cs hc=>?_⟩;obtain⟨h1,h2⟩:=hv b cs hc;exact⟨h1,by rw[xQ (hb.block b (BC h2))];exact h2⟩
def St.start(W:World):St W W []:=⟨Below.refl _ _,λ_=>none,trivial,λb cs h=>by cases h⟩
def mq(k n:Nat):LV->World->Nat:=λvs _=>match vs[k]? with|some (.int _ d)=>n-d.toNat|_=>0
def dn{n a b:Nat}(h:b<a/\b<n):n-((a:Nat):Int).toNat<n-((b:Nat):Int).toNat:=by omega
section
variable {w:World}
def Zy(k:IntKind)(K:Int->WK)(n:Int)(w:World):xI k K (.int k n) w=K n w:=by
 simp[xI]
def Ti(K:Bool->WK)(b:Bool)(w:World):xB K (.b b) w=K b w:=by simp[xB]
def Th(K:BA->WK)(s:BA)(w:World):xS K (.s s) w=K s w:=by simp[xS]
def Zw(K:OA->WK)(p:OA)(w:World):xP K (.p p) w=K p w:=by simp[xP]
def Zx(K:OA->Nat->Nat->WK)(b:OA)(n c:Nat)(w:World):xL K (.l b n c) w=K b n c w:=
 propext ⟨λ⟨_,_,_,h,hk⟩=>by cases h;exact hk,λh=>⟨_,_,_,rfl,h⟩⟩
def yM(n:Nat)(K:LV->WK)(cs:LV)(w:World):xA n K (.agg ⟨cs⟩) w=(cs.length=n/\K cs w):=by
 simp[xA]
def ZD(K:WK)(w:World):x0 K (.tuple ⟨[]⟩) w=K w:=by simp[x0]
def ZA(K:Value->Value->WK)(a b:Value)(w:World):x2 K (.tuple ⟨[a,b]⟩) w=K a b w:=
 propext ⟨λ⟨_,_,h,hk⟩=>by cases h;exact hk,λh=>⟨_,_,rfl,h⟩⟩
def Zz(K:Value->Value->Value->WK)(a b c:Value)(w:World):x3 K (.tuple ⟨[a,b,c]⟩) w=K a b c w:=
 propext ⟨λ⟨_,_,_,h,hk⟩=>by cases h;exact hk,λh=>⟨_,_,_,rfl,h⟩⟩
def lC(X Y:WK):br true X Y=X:=rfl
def eu(X Y:WK):br false X Y=Y:=rfl
def EP(a:Addr)(K:Addr->WK):nn (some a) K=K a:=rfl
def ab5(p:Prop)(K:WK)(w:World):cw p K w=(p/\K w):=rfl
def ia(b o n:Nat):(⟨b,o,none⟩:Addr).add n=⟨b,o+n,none⟩:=by
 unfold Addr.add;split
 ·rename_i h;subst h;rfl
 ·rfl
def uA{b:Bool}{X Y:WK}(h1:b=true->X w)(h2:b=false->Y w):br b X Y w:=by
 cases b with
 |true=>exact h1 rfl
 |false=>exact h2 rfl
def fV{p:Prop}[Decidable p]{X Y:WK}(h1:p->X w)(h2: ¬p->Y w):br (decide p) X Y w:=
 uA (λh=>h1 (aR h)) (λh=>h2 (bj h))
def Jr{x y:Int}{X Y:WK}(h1:x=y->X w)(h2:x≠y->Y w):br (x==y) X Y w:=
 uA (λh=>h1 (by simpa using h)) (λh=>h2 (by simpa using h))
def vO{x y:Int}{X Y:WK}(h1:x≠y->X w)(h2:x=y->Y w):br (x !=y) X Y w:=
 uA (λh=>h1 (by simpa using h)) (λh=>h2 (by simpa using h))
end
def nz:(∀(a:Addr)(K:Addr->WK),nn (some a) K=K a)/\(∀b o n:Nat,(⟨b,o,none⟩:Addr).add n=⟨b,o+n,none⟩)/\(∀n:Nat,0+n=n)/\(∀n:Nat,n+0=n)/\
 (∀(α:Type)(a:α),(some a).isNone=false)/\(∀α:Type,(none:Option α).isNone=true)/\(∀X Y:WK,br true X Y=X)/\(∀X Y:WK,br false X Y=Y)/\((!true)=false)/\((!false)=true)/\
 (∀(k:IntKind)(K:Int->WK)(n:Int)(w:World),xI k K (.int k n) w=K n w)/\(∀(K:Bool->WK)(b:Bool)(w:World),xB K (.b b) w=K b w)/\(∀(K:BA->WK)(s:BA)(w:World),xS K (.s s) w=K s w)/\
 (∀(K:OA->WK)(p:OA)(w:World),xP K (.p p) w=K p w)/\(∀(K:OA->Nat->Nat->WK)(b:OA)(n c:Nat)(w:World),xL K (.l b n c) w=K b n c w)/\
 (∀(K:WK)(w:World),x0 K (.tuple ⟨[]⟩) w=K w)/\(∀(K:Value->Value->WK)(a b:Value)(w:World),x2 K (.tuple ⟨[a,b]⟩) w=K a b w)/\(∀(K:Value->Value->Value->WK)(a b c:Value)(w:World),x3 K (.tuple ⟨[a,b,c]⟩) w=K a b c w)/\
 (∀(p:Prop)(K:WK)(w:World),cw p K w=(p/\K w))/\(∀p:Prop,(True/\p)=p)/\(∀p:Prop,(p/\True)=p)/\
 (∀(α:Type 1)(a b:α)(l:List α),(a::l).set 0 b=b::l)/\(∀(α:Type 1)(a b:α)(l:List α)(n:Nat),(a::l).set (n+1) b=a::l.set n b)/\(∀(α:Type 1)(a:α)(l:List α),(a::l).eraseIdx 0=l)/\(∀(α:Type 1)(a:α)(l:List α)(n:Nat),(a::l).eraseIdx (n+1)=a::l.eraseIdx n)/\
 (∀(α:Type)(a b:α)(l:List α),(a::l).set 0 b=b::l)/\(∀(α:Type)(a b:α)(l:List α)(n:Nat),(a::l).set (n+1) b=a::l.set n b)/\(∀(α:Type)(a:α)(l:List α),(a::l).eraseIdx 0=l)/\(∀(α:Type)(a:α)(l:List α)(n:Nat),(a::l).eraseIdx (n+1)=a::l.eraseIdx n):=
 ⟨EP,ia,aB,gM,λ_ _=>rfl,λ_=>rfl,lC,eu,rfl,rfl,Zy,Ti,Th,Zw,Zx,ZD,ZA,Zz,ab5,λ_=>true_and _,λ_=>and_true _,λ_ _ _ _=>rfl,λ_ _ _ _ _=>rfl,λ_ _ _=>rfl,λ_ _ _ _=>rfl,λ_ _ _ _=>rfl,λ_ _ _ _ _=>rfl,λ_ _ _=>rfl,λ_ _ _ _=>rfl⟩
def bz:(∀(p:Prop) [Decidable p],(decide p=true)=p)/\(∀(p:Prop) [Decidable p],(decide p=false)= ¬p)/\(∀b:Bool,((!b)=true)=(b=false))/\(∀b:Bool,((!b)=false)=(b=true))/\((true=false)=False)/\((false=true)=False)/\
 (∀(a b:Int),((a==b)=true)=(a=b))/\(∀(a b:Int),((a==b)=false)= ¬a=b)/\(∀(a b:Int),((a !=b)=true)= ¬a=b)/\(∀(a b:Int),((a !=b)=false)=(a=b))/\(∀(α:Type)(a b:α),(a≠b)= ¬a=b)/\(∀p:Prop,(¬ ¬p)=p)/\((!true)=false)/\((!false)=true):=by
 refine⟨λp _=>by simp,λp _=>by simp,λb=>by cases b<;>simp,λb=>by cases b<;>simp,by simp,by simp,λa b=>by simp,λa b=>by simp,λa b=>by simp,λa b=>by simp,λ_ a b=>rfl,λp=>by simp,rfl,rfl⟩
section
variable {W w:World} {L:LH} {k:Nat}
def IU{a:Addr}{v:Value}{K:VK}(h:w.cell? a=some v)(hk:K v w):ld a K w:=⟨v,h,hk⟩
def cZ{b o:Nat}{cs:LV}{v:Value}{K:VK}(h:St W w L)(hk:L[k]?=some (pt b cs))(hv:cs[o]?=some v)(hK:K v w):ld ⟨b,o,none⟩ K w:=
 ⟨v,by rw[(h.cell hk).1,hv],hK⟩
def pn{b o:Nat}{cs:LV}{v:Value}{K:WK}(h:St W w L)(hk:L[k]?=some (pt b cs))(ho:o<cs.length)(h1:v.oneCell'=true)
 (hK:∀w',St W w' (L.set k (pt b (cs.set o v)))->K w'):st ⟨b,o,none⟩ v K w:=by
 obtain⟨h2,h3,_⟩:=h.cell (o:=o) hk;exact⟨h1,⟨cs[o],by rw[h2];simp[ho]⟩,h3 ho,hK _ (h.set v hk)⟩
def jh{cs:LV}{K:Nat->WK}(h:St W w L)(hK:∀r w',St W w' (pt r cs::L)->K r w'):mk cs K w:=λt=>hK _ _ (h.new cs t)
def mK{K:WK}(h:St W w L)(hK:∀w',St W w' L->K w'):tick K w:=hK _ h.drew
def xH{b o:Nat}{cs xs:LV}(h:St W w L)(hk:L[k]?=some (pt b cs))(hx:∀j v,xs[j]?=some v->cs[o+j]?=some v):yU w ⟨b,o,none⟩ xs:=λj v hj=>by
 rw[ia,(h.cell hk).1];exact hx j v hj
def Qf{b o:Nat}{cs xs:LV}{K:WK}(h:St W w L)(hk:L[k]?=some (pt b cs))(hx:∀j v,xs[j]?=some v->cs[o+j]?=some v)(hK:K w):kp ⟨b,o,none⟩ xs K w:=
 ⟨xH h hk hx,hK⟩
def kI{b o:Nat}{cs:LV}{v:Value}{K:WK}(h:St W w L)(hk:L[k]?=some (pt b cs))(hx:cs[o]?=some v)(hK:K w):kp ⟨b,o,none⟩ [v] K w:=
 Qf h hk (λj u hj=>by
  cases j with
  |zero=>simp at hj;subst hj;exact hx
  |succ j=>simp at hj) hK
def kq{b o n:Nat}{cs xs:LV}{K:LV->WK}(h:St W w L)(hk:L[k]?=some (pt b cs))(hl:xs.length=n)(hx:∀j v,xs[j]?=some v->cs[o+j]?=some v)(hK:K xs w):aJ ⟨b,o,none⟩ n K w:=
 ⟨xs,hl,xH h hk hx,hK⟩
def over(cs:LV)(o:Nat)(xs:LV):LV:=cs.take o++xs++cs.drop (o+xs.length)
def LU{cs:LV}{o:Nat}{xs:LV}(h:o+xs.length<=cs.length):(over cs o xs).length=cs.length:=by
 simp[over];omega
def B2{cs:LV}{o:Nat}{xs:LV}(h:o+xs.length<=cs.length)(j:Nat):(over cs o xs)[j]?=if j<o then cs[j]? else if j<o+xs.length then xs[j-o]? else cs[j]?:=by
 unfold over;rw[aH];by_cases h1:j<o
 ·rw[ai h1,ch (by simp;omega),List.getElem?_take_of_lt h1]
 ·rw[ag h1,iN (by simp;omega)];have e:(cs.take o).length=o:=by simp;omega
  rw[e];by_cases h2:j<o+xs.length
  ·rw[ai h2,ch (by omega)]
  ·rw[ag h2,iN (by omega),ta]
   congr 1;omega
def Ul{cs:LV}{o:Nat}{v:Value}{xs:LV}(h:o+(xs.length+1)<=cs.length):over (cs.set o v) (o+1) xs=over cs o (v::xs):=by
 apply qX;intro j;rw[B2 (by simp;omega),B2 (by simpa using h)];by_cases h1:j<o
 ·rw[ai (by omega),ai h1,Pc (by omega)]
 ·by_cases h2:j=o
  ·subst h2;rw[ai (by omega),ag (by omega),ai (by simp)];have:j<cs.length:=by omega
   simp[this]
  ·rw[ag (by omega),ag h1];by_cases h3:j<o+(xs.length+1)
   ·rw[ai (by omega),ai (by simpa using h3)];obtain⟨m,rfl⟩:∃m,j=o+1+m:=⟨j-(o+1),by omega⟩;rw[show o+1+m-o=m+1 from by omega,show o+1+m-(o+1)=m from by omega]
    rfl
   ·rw[ag (by omega),ag (by simpa using h3),Pc (by omega)]
def nW{α:Type}:∀{L:List α} {k:Nat} {A:α},L[k]?=some A->L.set k A=L
 |[],k,A,h=>by simp at h
 |B::L,0,A,h=>by simp at h;subst h;rfl
 |B::L,k+1,A,h=>by simp only[bX] at h;simp only[nN,nW h]
def St.AT:∀(xs:LV) {w:World} {L:LH} {b:Nat}(o i:Nat) {cs:LV},St W w L->L[k]?=some (pt b cs)->o+i+xs.length<=cs.length->(∀v∈xs,v.oneCell'=true)->
 yI w ⟨b,o,none⟩ i xs/\St W (Den.AT w ⟨b,o,none⟩ i xs) (L.set k (pt b (over cs (o+i) xs)))
 |[],w,L,b,o,i,cs,h,hk,hl,h1=>by
  refine⟨⟨by simp,by simp⟩,?_⟩;have:over cs (o+i) []=cs:=by simp[over]
  rw[this,nW hk];exact h
 |v::xs,w,L,b,o,i,cs,h,hk,hl,h1=>by
  have Bt:(L.set k (pt b (cs.set (o+i) v)))[k]?=some (pt b (cs.set (o+i) v)):=by
   have:=(ar.1 hk).1;simp[this]
  have h2:=h.set (o:=o+i) v hk;obtain⟨hc,hs⟩:=St.AT xs o (i+1) h2 Bt (by simp at hl⊢;omega) (λu hu=>h1 u (by simp[hu]));refine⟨⟨h1,λj hj=>?_⟩,?_⟩
  ·rw[ia];obtain⟨g1,g2,_⟩:=h.cell (o:=o+(i+j)) hk;simp only[bE] at hl hj;have cn:o+(i+j)<cs.length:=by omega
   exact⟨⟨cs[o+(i+j)],by rw[g1];simp[cn]⟩,g2 cn⟩
  ·simp only[Den.AT];rw[ia,jH] at *;have e:=Ul (cs:=cs) (o:=o+i) (v:=v) (xs:=xs) (by simp at hl;omega);rw[show o+(i+1)=o+i+1 from by omega,e] at hs;exact hs
def kk{b o:Nat}{cs xs:LV}{K:WK}(h:St W w L)(hk:L[k]?=some (pt b cs))(hl:o+xs.length<=cs.length)(h1:∀v∈xs,v.oneCell'=true)
 (hK:∀w',St W w' (L.set k (pt b (over cs o xs)))->K w'):jY ⟨b,o,none⟩ xs K w:=by
 obtain⟨hc,hs⟩:=St.AT xs o 0 h hk (by omega) h1;exact⟨hc,hK _ hs⟩
end
def own(b:OA)(n c e:Nat)(xs:LV):HP:=λh=>
 xs.length=n* e/\((b=none/\n=0/\c=0)\/∃r sp,b=ah r/\n<=c/\sp.length=(c-n)* e/\pt r (xs++sp) h)
section
variable {W w:World} {L:LH} {k:Nat} {b:OA} {n c e:Nat} {xs:LV}
def St.push{A:HP}(h:St W w L)(ha:A λ_=>none):St W w (A::L):=by
 obtain⟨hb,g,hs,hv⟩:=h;exact⟨hb,g,⟨λ_=>none,g,λb=>.inl rfl,λb=>by simp,ha,hs⟩,hv⟩
def sA(e:Nat):own none 0 0 e [] λ_=>none:=⟨by simp,.inl ⟨rfl,rfl,rfl⟩⟩
def St.oU(h:St W w L)(hk:L[k]?=some (own b n c e xs)):xs.length=n* e/\
 ((b=none/\n=0/\c=0)\/∃r sp,b=ah r/\n<=c/\sp.length=(c-n)* e/\St W w (L.set k (pt r (xs++sp)))):=by
 obtain⟨hb,g,⟨h1,h2,hd,hu,⟨hl,ha⟩,hs⟩,hv⟩:=h.focus hk;refine⟨hl,ha.imp id ?_⟩;rintro⟨r,sp,rH,vX,A5,hp⟩;exact⟨r,sp,rH,vX,A5,St.ss (A:=own b n c e xs) ⟨hb,g,⟨h1,h2,hd,hu,hp,hs⟩,hv⟩ hk⟩
def kn{α:Type}{L:List α}{k:Nat}{A B:α}(hk:L[k]?=some A):(L.set k B)[k]?=some B:=by
 have:=(ar.1 hk).1;simp[this]
def St.CZ{r:Nat}{sp:LV}(hk:k<L.length)(hl:xs.length=n* e)(vX:n<=c)(A5:sp.length=(c-n)* e)(h:St W w (L.set k (pt r (xs++sp)))):
 St W w (L.set k (own (ah r) n c e xs)):=by
 have hg:(L.set k (pt r (xs++sp)))[k]?=some (pt r (xs++sp)):=by simp[hk]
 have h2:=(h.focus hg).mono (B:=own (ah r) n c e xs) λg hp=>⟨hl,.inr ⟨r,sp,rfl,vX,A5,hp⟩⟩;have:=h2.ss hg;rwa[jH] at this
def St.IH{r:Nat}(h:St W w L)(hk:L[k]?=some (own (ah r) n c e xs))(o:Nat)(ho:o<xs.length):
 w.cell? ⟨r,o,none⟩=xs[o]?/\w.frozen? ⟨r,o,none⟩=false:=by
 obtain⟨hl,h0|⟨r',sp,hb,vX,A5,hs⟩⟩:=h.oU hk
 ·cases h0.1
 ·cases hb
  obtain⟨h1,h2,_⟩:=hs.cell (o:=o) (kn hk);exact⟨by rw[h1,ch ho],h2 (by simp;omega)⟩
def sH{i:Int}{K:Addr->WK}(h:St W w L)(hk:L[k]?=some (own b n c e xs))(hi:0<=i/\i<n)
 (hK:∀r,b=ah r->K ⟨r,i.toNat* e,none⟩ w):iW b n i e K w:=by
 obtain⟨hl,h0|⟨r,sp,hb,vX,A5,hs⟩⟩:=h.oU hk
 ·omega
 ·refine⟨_,hb,hi,?_⟩;rw[ia,aB];exact hK r hb
def A3{r o:Nat}{v:Value}{K:VK}(h:St W w L)(hk:L[k]?=some (own (ah r) n c e xs))(hv:xs[o]?=some v)(hK:K v w):ld ⟨r,o,none⟩ K w:=
 ⟨v,by rw[(h.IH hk o (ar.1 hv).1).1,hv],hK⟩
def Au{r o:Nat}{ys:LV}(h:St W w L)(hk:L[k]?=some (own (ah r) n c e xs))(hx:∀j v,ys[j]?=some v->xs[o+j]?=some v):yU w ⟨r,o,none⟩ ys:=λj v hj=>by
 have:=hx j v hj;rw[ia,(h.IH hk _ (ar.1 this).1).1,this]
def EW{r o m:Nat}{ys:LV}{K:LV->WK}(h:St W w L)(hk:L[k]?=some (own (ah r) n c e xs))(hl:ys.length=m)(hx:∀j v,ys[j]?=some v->xs[o+j]?=some v)(hK:K ys w):aJ ⟨r,o,none⟩ m K w:=
 ⟨ys,hl,Au h hk hx,hK⟩
def Xi{r o:Nat}{ys:LV}{K:WK}(h:St W w L)(hk:L[k]?=some (own (ah r) n c e xs))(ho:o+ys.length<=xs.length)(h1:∀v∈ys,v.oneCell'=true)
 (hK:∀w',St W w' (L.set k (own (ah r) n c e (over xs o ys)))->K w'):jY ⟨r,o,none⟩ ys K w:=by
 obtain⟨hl,h0|⟨r',sp,hb,vX,A5,hs⟩⟩:=h.oU hk
 ·cases h0.1
 ·cases hb
  refine kk hs (kn hk) (by simp;omega) h1 λw' SS=>hK w' ?_;rw[jH] at SS;have e1:over (xs++sp) o ys=over xs o ys++sp:=by
   unfold over;rw[List.take_append_of_le_length (by omega),List.drop_append_of_le_length (by omega)];simp
  rw[e1] at SS;exact St.CZ ((ar.1 hk).1) (by rw[LU ho];exact hl) vX A5 SS
def CO{r o:Nat}{v:Value}{K:WK}(h:St W w L)(hk:L[k]?=some (own (ah r) n c e xs))(ho:o<xs.length)(h1:v.oneCell'=true)
 (hK:∀w',St W w' (L.set k (own (ah r) n c e (xs.set o v)))->K w'):st ⟨r,o,none⟩ v K w:=by
 obtain⟨hl,h0|⟨r',sp,hb,vX,A5,hs⟩⟩:=h.oU hk
 ·cases h0.1
 ·cases hb
  refine pn hs (kn hk) (by simp;omega) h1 λw' SS=>hK w' ?_;rw[jH,List.set_append_left _ _ ho] at SS;exact St.CZ ((ar.1 hk).1) (by simpa using hl) vX A5 SS
def He{r o m:Nat}{cs ys:LV}{k':Nat}(h:St W w L)(hk:L[k']?=some (pt r cs))(hl:ys.length=m* e)(hx:∀j v,ys[j]?=some v->cs[o+j]?=some v):Src w m e (some ⟨r,o,none⟩) ys:=
 ⟨hl,λa ha=>by cases ha;exact xH h hk hx⟩
def QW{m c':Nat}{ys:LV}{b':OA}{k':Nat}(h:St W w L)(hk:L[k']?=some (own b' m c' e ys)):Src w m e b' ys/\(b'=none->m=0):=by
 obtain⟨hl,h0|⟨r',sp,hb,vX,A5,hs⟩⟩:=h.oU hk
 ·obtain⟨rfl,rfl,rfl⟩:=h0;exact⟨⟨hl,λa ha=>by cases ha⟩,λ_=>rfl⟩
 ·subst hb;refine⟨⟨hl,λa ha=>?_⟩,λhn=>by cases hn⟩;cases ha
  exact xH hs (kn hk) λj v hj=>by
   rw[aB,ch (ar.1 hj).1];exact hj
def oN(z:LV)(m:Nat):(Builtin.zeroCells ⟨z⟩ m).toList.length=m* z.length:=by
 simp[Builtin.zeroCells]
def Od(c n m e:Nat):(c-n)* e-m* e=(c-(n+m))* e:=by
 rw[<-Nat.sub_mul];congr 1;omega
def M4{bytes m:Nat}{zero ys:LV}{K:OA->Nat->Nat->WK}(h:St W w L)(hk:L[k]?=some (own b n c e xs))(hy:ys.length=m* e)(hz:zero.length=e)
 (hbound:(n+m)* bytes<=140737488355328)(Yh:n+m<=9223372036854775807)(h1:∀v∈ys,v.oneCell'=true)
 (hK:∀b' c' w',St W w' (L.set k (own b' (n+m) c' e (xs++ys)))->K b' (n+m) c' w'):Zg e bytes zero b n c m ys K w:=by
 have hkl:=(ar.1 hk).1;obtain⟨hl,h0⟩:=h.oU hk;refine⟨λhle=>⟨λa ha=>?_,λhb=>?_⟩,λcn=>⟨hbound,by omega,xs,?_,?_,λc' t Mu=>?_⟩⟩
 ·rcases h0 with h0|⟨r,sp,hb,vX,A5,hs⟩
  ·rw[h0.1] at ha;cases ha
  ·subst hb;cases ha
   rw[ia,aB];have Mi:n* e+0+ys.length<=(xs++sp).length:=by
    rw[av,hl,A5,hy,gM,<-mG,<-mG];exact iA e (by omega)
   obtain⟨hc,ib⟩:=St.AT ys (n* e) 0 hs (kn hk) Mi h1;refine⟨hc,hK _ _ _ ?_⟩;rw[jH,gM] at ib;have e1:over (xs++sp) (n* e) ys=(xs++ys)++sp.drop ys.length:=by
    unfold over;rw[<-hl,List.take_left' rfl,List.drop_append,gG (by omega)];simp
   rw[e1] at ib;refine St.CZ hkl (by rw[av,hl,hy,mG]) hle ?_ ib;rw[aS,A5,hy];exact Od c n m e
 ·rcases h0 with h0|⟨r,sp,rH,vX,A5,hs⟩
  ·obtain⟨rfl,rfl,rfl⟩:=h0;have hm:m=0:=by omega
   subst hm;have hye:ys=[]:=List.eq_nil_of_length_eq_zero (by simpa using hy);have Z6:xs=[]:=List.eq_nil_of_length_eq_zero (by simpa using hl);subst hye Z6;apply hK _ _ _;rw[bR,nW hk];exact h
  ·rw[rH] at hb;cases hb
 ·rcases h0 with h0|⟨r,sp,hb,vX,A5,hs⟩
  ·obtain⟨rfl,rfl,rfl⟩:=h0;exact⟨hl,λa ha=>by cases ha⟩
  ·subst hb;refine⟨hl,λa ha=>?_⟩;cases ha
   exact xH hs (kn hk) λj v hj=>by
    rw[aB,ch (ar.1 hj).1];exact hj
 ·intro hb;rcases h0 with h0|⟨r,sp,rH,_⟩
  ·exact h0.2.1
  ·rw[rH] at hb;cases hb
 ·apply hK _ _ _;have Yg:=(h.focus hk).drop.drew.new ((xs++ys)++(Builtin.zeroCells ⟨zero⟩ (c'-(n+m))).toList) t;rw[World.size_drew] at Yg;have afR:((xs++ys).toArray++Builtin.zeroCells ⟨zero⟩ (c'-(n+m)):Array Value)=⟨(xs++ys)++(Builtin.zeroCells ⟨zero⟩ (c'-(n+m))).toList⟩:=by
   apply tt;simp
  rw[afR];refine St.ss (A:=own b n c e xs) ?_ hk;exact Yg.mono λg hp=>⟨by rw[av,hl,hy,mG],.inr ⟨_,_,rfl,Mu,by rw[oN,hz],hp⟩⟩
def vh{bytes m:Nat}{zero ys:LV}{b':OA}{K:OA->Nat->Nat->WK}(h:St W w L)(hk:L[k]?=some (own b n c e xs))(A4:Src w m e b' ys)(rH:b'=none->m=0)(hz:zero.length=e)
 (hbound:(n+m)* bytes<=140737488355328)(Yh:n+m<=9223372036854775807)(h1:∀v∈ys,v.oneCell'=true)
 (hK:∀b' c' w',St W w' (L.set k (own b' (n+m) c' e (xs++ys)))->K b' (n+m) c' w'):iP e bytes zero b n c b' m K w:=
 ⟨ys,A4,rH,M4 h hk A4.1 hz hbound Yh h1 hK⟩
def JM(s:BA):∀v∈strCells s,v.oneCell'=true:=by
 intro v hv;simp only[strCells,cV] at hv;obtain⟨x,_,rfl⟩:=hv
 rfl
def strCells_length(s:BA):(strCells s).length=s.size:=by simp[strCells]
def G7{s:BA}{K:OA->Nat->Nat->WK}{xs:LV}(h:St W w L)(hk:L[k]?=some (own b n c 1 xs))(hbound:n+s.size<=140737488355328)
 (hK:∀b' c' w',St W w' (L.set k (own b' (n+s.size) c' 1 (xs++strCells s)))->K b' (n+s.size) c' w'):G8 b n c s K w:=
 M4 h hk (by rw[strCells_length];omega) rfl (by omega) (by omega) (JM s) hK
def UB{bytes:Nat}{zero:LV}{len cap:Int}{K:OA->Nat->Nat->WK}(h:St W w L)(h0:0<=len/\len<=cap/\cap<=9223372036854775807/\cap* bytes<=281474976710656)
 (hK:∀r w',St W w' (own (some ⟨r,0,none⟩) len.toNat cap.toNat zero.length (Builtin.zeroCells ⟨zero⟩ len.toNat).toList::L)->K (some ⟨r,0,none⟩) len.toNat cap.toNat w'):L3 bytes zero len cap K w:=by
 refine⟨h0,λt=>hK _ _ ?_⟩;have Yg:=h.new (Builtin.zeroCells ⟨zero⟩ cap.toNat).toList t;refine St.mono Yg λg hp=>⟨oN _ _,.inr ⟨_,(Builtin.zeroCells ⟨zero⟩ (cap.toNat-len.toNat)).toList,rfl,by omega,oN _ _,?_⟩⟩;have vD:(Builtin.zeroCells ⟨zero⟩ cap.toNat).toList=(Builtin.zeroCells ⟨zero⟩ len.toNat).toList++(Builtin.zeroCells ⟨zero⟩ (cap.toNat-len.toNat)).toList:=by
  have key:∀p q,(Builtin.zeroCells ⟨zero⟩ (p+q)).toList=(Builtin.zeroCells ⟨zero⟩ p).toList++(Builtin.zeroCells ⟨zero⟩ q).toList:=by
   intro p q;simp only[Builtin.zeroCells,Array.toList_map,Array.toList_range];rw[mG,List.range_add,cF,sY]
   congr 1
   apply jv;intro j _;simp only[Function.comp]
   congr 1
   rw[Nat.add_comm,Nat.add_mul_mod_self_right]
  rw[<-key];congr 2;omega
 rw[<-vD];exact hp
end
end Go.Sep
namespace Go.cG
open Go.Den
def nE(n:Nat):BA:=⟨(bw n 0).toArray⟩
def vk(n:Nat):(nE n).size=n:=by simp[nE,ByteArray.size]
structure aY where
 safe:List BA
 later:List (Int×BA)
 ops:Int
 arm:Int
namespace aY
def new(n:Int):aY:=⟨bw (min2 (max2 n 0) 4096).toNat (nE 128),[],0,0⟩
def is(D:aY)(i:Int):Prop:=0<=i/\i<D.safe.length
instance(D:aY)(i:Int):Decidable (D.is i):=by unfold is;infer_instance
def tick(D:aY):aY:={D with ops:=aa.wrap (D.ops+1),arm:=if D.arm=0 then 0 else aa.wrap (D.arm-1)}
def wu(D:aY):Bool:= !(D.arm==0)&&(aa.wrap (D.arm-1)==0)
def last(l:List (Int×BA))(i:Int):Option BA:=(l.reverse.find? λp=>p.1==i).map (·.2)
def now(D:aY)(i:Int):BA:=(last D.later i).getD (D.safe.getD i.toNat .empty)
def read(D:aY)(i:Int):BA×Int:=if D.is i then(D.now i,0) else(.empty,1)
def pad(s:BA):BA:=s++nE (128-s.size)
def write(D:aY)(i:Int)(s:BA):aY×Int:=
 if ¬D.is i\/128<s.size then(D,1) else if D.wu then(D.tick,8) else({D.tick with later:=D.later++[(i,pad s)]},0)
def put(safe:List BA)(p:Int×BA):List BA:=safe.set p.1.toNat p.2
def sync(D:aY):aY×Int:=if D.wu then(D.tick,8) else({D.tick with safe:=D.later.foldl put D.safe,later:=[]},0)
def bit(mask:Int)(k:Int):Bool:=dj .u64 .and (shr .u64 mask (min2 k 63)) 1==1
def od(mask torn c:Int)(safe:List BA)(k:Nat)(p:Int×BA):List BA:=
 if(k:Int)=torn then safe.set p.1.toNat (p.2.extract 0 c.toNat++(safe.getD p.1.toNat .empty).extract c.toNat (safe.getD p.1.toNat .empty).size)
 else if bit mask k then safe.set p.1.toNat p.2 else safe
def xC(mask torn c:Int):Nat->List (Int×BA)->List BA->List BA
 |_,[],safe=>safe
 |k,p::r,safe=>xC mask torn c (k+1) r (od mask torn c safe k p)
def fJ(D:aY)(mask torn cut:Int):aY:=
 {D with safe:=xC mask torn (min2 (max2 cut 0) 128) 0 D.later D.safe,later:=[],arm:=0}
def uC(D:aY)(n:Int):aY:={D with arm:=max2 n 0}
structure Ok(D:aY):Prop where
 safe:∀s∈D.safe,s.size=128
 later:∀p∈D.later,p.2.size=128/\0<=p.1/\p.1<D.safe.length
 oJ:D.safe.length<=4096
 less:D.later.length<1099511627776
end aY
end Go.cG
namespace Go.Prog
open Go.Den Go.RowKit
def FU(l:List UInt8):Nat->List UInt8
 |0=>[]
 |n+1=>l++FU l n
def strings_Repeat(s:BA)(n:Int)(K:VK):WK:=λw=>
 (0<=n/\s.size* n.toNat<=140737488355328/\n<=9223372036854775807)/\∀w',Below w.heap.size w w'->K (.s ⟨(FU s.data.toList n.toNat).toArray⟩) w'
def strings_Repeat.u:WP:=λargs K=>match args with|[.string s,.int .i64 n]=>strings_Repeat s n K|_=>no
end Go.Prog
namespace Go.Prog
open Go.Den
abbrev LI:=List Value->World->Prop
abbrev LM:=List Value->World->Nat
abbrev lp(a:LV)(B:LI->LM->Prop):WK:=λw=>∃I μ,I a w/\B I μ
abbrev ct(I:LI)(μ:LM)(b a:LV)(w:World):WK:=λv=>I b v/\μ b v<μ a w
abbrev bK(n:Nat)(a:Addr)(cs:LV)(X:WK):WK:=cw (cs.length=n) (jY a cs X)
abbrev KZ(n:Nat)(cs:LV)(F:Nat->WK):WK:=cw (cs.length=n/\True) (mk (cs++[]) F)
abbrev lI(a:Addr)(K:Int->WK):WK:=ld a (xI .i64 K)
abbrev lU(a:Addr)(K:Int->WK):WK:=ld a (xI .u64 K)
abbrev lB(a:Addr)(K:Int->WK):WK:=ld a (xI .u8 K)
abbrev lP(a:Addr)(K:OA->WK):WK:=ld a (xP K)
abbrev lL(a:Addr)(K:OA->Nat->Nat->WK):WK:=ld a (xL K)
abbrev lT(a:Addr)(K:Bool->WK):WK:=ld a (xB K)
abbrev lS(a:Addr)(K:ByteArray->WK):WK:=ld a (xS K)
abbrev aeX:LV:=[.int .u8 0,.int .u8 0,.int .u8 0,.int .u8 0,.int .u8 0,.int .u8 0,.int .u8 0,.int .u8 0,.int .u8 0,.int .u8 0,.int .u8 0,.int .u8 0,.int .u8 0,.int .u8 0,.int .u8 0,.int .u8 0]
abbrev Pf:LV:=[.bool false,.int .u64 0,.int .u64 0,.int .u64 0,.int .u64 0,.int .u64 0,.int .u64 0,.int .u64 0,.int .u64 0,.int .u64 0,.int .u64 0,.int .i64 0,.int .i64 0,.int .i64 0,.int .i64 0]
abbrev By:LV:=[.bool false,.int .u64 0,.int .u64 0,.int .u64 0,.int .u64 0,.int .u64 0,.int .u64 0,.int .u64 0,.int .u64 0,.int .u64 0,.int .u64 0,.int .i64 0,.int .i64 0,.int .i64 0,.int .i64 0,.int .u64 0,.int .u64 0,.int .u64 0,.int .u64 0,.int .u64 0,.int .u64 0,.int .u64 0,.int .u64 0,.int .u64 0,.int .u64 0,.int .i64 0,.int .i64 0,.int .i64 0,.int .i64 0,.int .i64 0,.int .i64 0]
abbrev y4:LV:=[.int .i64 0,.int .i64 0,.int .u64 0,.int .u64 0]
abbrev zi4:LV:=[.int .i64 0,.int .i64 0,.int .i64 0,.int .i64 0]
abbrev Zv:LV:=[.int .i64 0,.int .i64 0,.int .i64 0,.int .i64 0,.int .i64 0]
abbrev Nz:LV:=[.int .i64 0,.string .empty,.int .u64 0,.int .i64 0,.int .i64 0,.int .i64 0]
abbrev ke:LV:=[.int .i64 0,.slice none 0 0,.slice none 0 0,.int .i64 0,.slice none 0 0,.int .u64 0,.int .u64 0,.int .i64 0,.int .i64 0,.bool false,.bool false,.bool false,.int .i64 0]
abbrev Jw:LV:=[.int .i64 0,.slice none 0 0,.slice none 0 0,.slice none 0 0]
abbrev Tf:LV:=[.slice none 0 0,.slice none 0 0,.int .i64 0,.int .i64 0]
abbrev eG:LV:=[.int .u64 0,.int .u64 0,.int .u64 0,.int .u64 0,.int .u64 0,.int .u64 0,.int .u64 0,.int .u64 0,.int .u64 0,.int .u64 0,.int .i64 0,.int .i64 0,.int .i64 0,.int .i64 0]
abbrev pe:LV:=[.int .u64 0,.int .u64 0,.int .u64 0,.int .u64 0,.int .u64 0,.int .u64 0,.int .u64 0,.int .u64 0,.int .u64 0,.int .u64 0,.int .i64 0,.int .i64 0,.int .i64 0,.int .i64 0,.int .u64 0,.int .u64 0,.int .u64 0,.int .u64 0,.int .u64 0,.int .u64 0,.int .u64 0,.int .u64 0,.int .u64 0,.int .u64 0,.int .i64 0,.int .i64 0,.int .i64 0,.int .i64 0]
abbrev iL:LV:=[.int .u64 0,.int .u64 0,.int .u64 0,.int .u64 0,.int .u64 0,.int .u64 0,.int .u64 0,.int .u64 0,.int .u64 0,.int .u64 0,.int .i64 0,.int .i64 0,.int .i64 0,.int .i64 0,.int .i64 0,.int .i64 0]
abbrev cN:LV:=[.int .u64 0,.int .u64 0,.int .u64 0,.int .u64 0,.int .u64 0,.int .u64 0,.int .u64 0,.int .u64 0,.int .u64 0,.int .u64 0,.int .i64 0,.int .i64 0,.int .i64 0,.int .i64 0,.int .i64 0,.int .i64 0,.int .u64 0,.int .u64 0,.int .u64 0,.int .u64 0,.int .u64 0,.int .u64 0,.int .u64 0,.int .u64 0,.int .u64 0,.int .u64 0,.int .i64 0,.int .i64 0,.int .i64 0,.int .i64 0,.int .i64 0,.int .i64 0,.int .i64 0]
abbrev Fa:LV:=[.int .u64 0,.int .u64 0,.int .i64 0,.int .i64 0,.bool false,.bool false,.bool false,.int .i64 0]
abbrev Pe:LV:=[.int .u64 0,.int .u64 0,.int .i64 0,.int .u8 0]
def rr(K:VK):WK:=strings_Repeat (⟨#[0]⟩:BA) 128 (xS λa=>K (.s a))
def um(n:Int)(K:VK):WK:=cw True (mk [.l none 0 0,.l none 0 0,.i 0,.i 0] λo=>(λq=>∃(e:LV->World->Prop)(k:LV->World->Nat),e [.p none,.p (some (⟨o,0,none⟩:Addr)),.i (min2 (max2 n 0) 4096),.i 0] q/\∀(d:OA)(a:Addr)(b:Int)(c:Int)(f:World),e [.p d,.p (some a),.i b,.i c] f->(br (decide (c<b)) (tick (ld (a.add 0) (xL λg h j=>rr (xS λr=>kp (a.add 0) [.l g h j] (cw (1=1/\True) (mk [.s r] λt=>kp (a.add 0) [.l g h j] (iP 1 16 [.s .empty] g h j (ah t) 1 λu v w=>st (a.add 0) (.l u v w) ((λm=>e [.p d,.p (some a),.i b,.i (aa.wrap (c+1))] m/\k [.p d,.p (some a),.i b,.i (aa.wrap (c+1))] m<k [.p d,.p (some a),.i b,.i c] f))))))))) (K (.p (some a)))) f))
def pN(a:OA)(c:Int)(K:VK):WK:=br (!(a.isNone)) (br (decide (c>=0)) (nn a λd=>ld (d.add 0) (xL λf e g=>K (.b (decide (c<(e:Int)))))) (K (.b false))) (K (.b false))
def nh(a:OA)(K:VK):WK:=nn a λc=>ld (c.add 2) (xI .i64 λd=>nn a λe=>st (e.add 2) (.i (aa.wrap (d+1))) (nn a λf=>ld (f.add 3) (xI .i64 λg=>br (g==0) (K (.b false)) (nn a λh=>ld (h.add 3) (xI .i64 λj=>nn a λk=>st (k.add 3) (.i (aa.wrap (j-1))) (nn a λl=>ld (l.add 3) (xI .i64 λm=>K (.b (m==0)))))))))
def ft.j1(K:VK)(a:OA)(b:BA)(h:Int)(j:Bool):WK:=br j (K (.i 1)) (nh a (xB λk=>br k (K (.i 8)) (tick (nn a λc=>ld (c.add 1) (xL λd e f=>rr (xS λm=>kp (c.add 1) [.l d e f] (mT m (some (b.size:Int)) none λg=>cw (((b.size+g.size:Nat):Int)<=9223372036854775807) (cw (1=1/\(1=1/\True)) (cw (2=2/\True) (mk [.i h,.s (b++g)] λn=>kp (c.add 1) [.l d e f] (iP 2 24 [.i 0,.s .empty] d e f (ah n) 1 λo p q=>nn a λr=>st (r.add 1) (.l o p q) (K (.i 0)))))))))))))
def ft(a:OA)(b:Int)(c:BA)(K:VK):WK:=br (a.isNone) (K (.i 2)) (pN a b (xB λd=>br (!d) (ft.j1 K a c b true) (ft.j1 K a c b (decide ((c.size:Int)>128)))))
def ko(b:OA)(e:Int)(K:VK):WK:=br (b.isNone) (K (.tuple ⟨[.s .empty,.i 2]⟩)) (pN b e (xB λk=>br (!k) (K (.tuple ⟨[.s .empty,.i 1]⟩)) (nn b λl=>ld (l.add 1) (xL λE m F=>(λn=>∃(f:LV->World->Prop)(h:LV->World->Nat),f [.s .empty,.i 0,.i (aa.wrap ((m:Int) -1))] n/\∀(c:BA)(d:Int)(a:Int)(g:World),f [.s c,.i d,.i a] g->(br (decide (a>=0)) (nn b λo=>ld (o.add 1) (xL λp q G=>iW p q a 2 λr=>ld (r.add 0) (xI .i64 λt=>br (t==e) (nn b λu=>ld (u.add 1) (xL λv w H=>iW v w a 2 λx=>ld (x.add 1) (xS λy=>K (.tuple ⟨[.s y,.i 0]⟩)))) ((λj=>f [.s c,.i d,.i (aa.wrap (a-1))] j/\h [.s c,.i d,.i (aa.wrap (a-1))] j<h [.s c,.i d,.i a] g))))) (nn b λz=>ld (z.add 0) (xL λA B I=>iW A B e 1 λC=>ld C (xS λD=>K (.tuple ⟨[.s D,.i 0]⟩))))) g)))))
def ni(g:OA)(v w x:Int)(K:VK):WK:=br (g.isNone) (K (.tuple ⟨[]⟩)) (nn g λy=>ld (y.add 1) (xL λz n A=>(λB=>∃(k:LV->World->Prop)(h:LV->World->Nat),k [.i (min2 (max2 x 0) 128),.l z n A,.i (n:Int),.i 0] B/\∀(b:Int)(c:OA)(d:Nat)(f:Nat)(e:Int)(a:Int)(m:World),k [.i b,.l c d f,.i e,.i a] m->(br (decide (a<e)) (iW c d a 2 λC=>aJ C 2 λo=>mk [.i 0,.s .empty] λj=>cw (o.length=2) (jY (⟨j,0,none⟩:Addr) o (br (a==w) (tick (nn g λD=>ld (D.add 0) (xL λE F pa=>ld ((⟨j,0,none⟩:Addr).add 0) (xI .i64 λG=>ld ((⟨j,0,none⟩:Addr).add 1) (xS λH=>mT H none (some b) λp=>nn g λI=>ld (I.add 0) (xL λJ M uP=>ld ((⟨j,0,none⟩:Addr).add 0) (xI .i64 λO=>iW J M O 1 λP=>ld P (xS λQ=>mT Q (some b) none λq=>cw (((p.size+q.size:Nat):Int)<=9223372036854775807) (iW E F G 1 λR=>st R (.s (p++q)) ((λr=>k [.i b,.l c d f,.i e,.i (aa.wrap (a+1))] r/\h [.i b,.l c d f,.i e,.i (aa.wrap (a+1))] r<h [.i b,.l c d f,.i e,.i a] m))))))))))) (cw ((0:Int)<=(min2 a 63)) (br ((dj .u64 .and (shr .u64 v (min2 a 63)) 1)==1) (tick (nn g λS=>ld (S.add 0) (xL λT V BL=>ld ((⟨j,0,none⟩:Addr).add 0) (xI .i64 λW=>ld ((⟨j,0,none⟩:Addr).add 1) (xS λX=>iW T V W 1 λY=>st Y (.s X) ((λt=>k [.i b,.l c d f,.i e,.i (aa.wrap (a+1))] t/\h [.i b,.l c d f,.i e,.i (aa.wrap (a+1))] t<h [.i b,.l c d f,.i e,.i a] m))))))) ((λu=>k [.i b,.l c d f,.i e,.i (aa.wrap (a+1))] u/\h [.i b,.l c d f,.i e,.i (aa.wrap (a+1))] u<h [.i b,.l c d f,.i e,.i a] m))))))) (nn g λZ=>st (Z.add 1) (.l none 0 0) (nn g λa10=>st (a10.add 3) (.i 0) (K (.tuple ⟨[]⟩))))) m)))
def fH(a:OA)(K:VK):WK:=br (a.isNone) (K (.i 0)) (nn a λb=>ld (b.add 0) (xL λd c e=>K (.i (c:Int))))
def l7(b:OA)(K:VK):WK:=br (b.isNone) (K (.i 2)) (nh b (xB λq=>br q (K (.i 8)) (nn b λr=>ld (r.add 1) (xL λt m u=>(λv=>∃(h:LV->World->Prop)(n:LV->World->Nat),h [.i 0,.l t m u,.i (m:Int),.i 0] v/\∀(f:Int)(c:OA)(d:Nat)(g:Nat)(e:Int)(a:Int)(j:World),h [.i f,.l c d g,.i e,.i a] j->(br (decide (a<e)) (iW c d a 2 λw=>aJ w 2 λo=>mk [.i 0,.s .empty] λk=>cw (o.length=2) (jY (⟨k,0,none⟩:Addr) o (tick (nn b λx=>ld (x.add 0) (xL λy z E=>ld ((⟨k,0,none⟩:Addr).add 0) (xI .i64 λA=>ld ((⟨k,0,none⟩:Addr).add 1) (xS λB=>iW y z A 1 λC=>st C (.s B) ((λp=>h [.i f,.l c d g,.i e,.i (aa.wrap (a+1))] p/\n [.i f,.l c d g,.i e,.i (aa.wrap (a+1))] p<n [.i f,.l c d g,.i e,.i a] j))))))))) (nn b λD=>st (D.add 1) (.l none 0 0) (K (.i 0)))) j)))))
def oS(a:OA)(b:Int)(K:VK):WK:=br (!(a.isNone)) (nn a λc=>st (c.add 3) (.i (max2 b 0)) (K (.tuple ⟨[]⟩))) (K (.tuple ⟨[]⟩))
def k9(a:OA)(K:VK):WK:=br (a.isNone) (K (.i 0)) (nn a λb=>ld (b.add 2) (xI .i64 λc=>K (.i c)))
def mS(a:Int)(K:VK):WK:=cw ((104:Int)≠0) (cw ((104:Int)≠0) (K (.i (max2 (aa.wrap ((aa.wrap ((max2 a 0).tdiv (104:Int)))+(min2 ((max2 a 0).tmod (104:Int)) 1))) 1))))
def vr(c:LV)(K:VK):WK:=mk c λa=>ld ((⟨a,0,none⟩:Addr).add 0) (xI .i64 λd=>br (decide (d>=1)) (ld ((⟨a,0,none⟩:Addr).add 0) (xI .i64 λe=>br (decide (e<=1152921504606846976)) (ld ((⟨a,0,none⟩:Addr).add 1) (xI .i64 λf=>br (decide (f>=0)) (ld ((⟨a,0,none⟩:Addr).add 1) (xI .i64 λg=>br (decide (g<4096)) (ld ((⟨a,0,none⟩:Addr).add 2) (xS λh=>K (.b (decide ((h.size:Int)<=104))))) (K (.b false)))) (K (.b false)))) (K (.b false)))) (K (.b false)))
def bt(e:OA)(n o:Int)(K:VK):WK:=(λp=>∃(c:LV->World->Prop)(f:LV->World->Nat),c [.i (min2 (max2 n 1) 8),.i 0] p/\∀(b:Int)(a:Int)(d:World),c [.i b,.i a] d->(br (decide (a<b)) (tick (nn e λg=>ld (g.add 0) (xL λh j k=>cw ((0:Int)<=(aa.wrap (8* a))) (cw (1=1/\True) (mk [.int .u8 (IntKind.u8.wrap (shr .i64 o (aa.wrap (8* a))))] λq=>kp (g.add 0) [.l h j k] (iP 1 1 [.int .u8 0] h j k (ah q) 1 λr s t=>nn e λu=>st (u.add 0) (.l r s t) ((λm=>c [.i b,.i (aa.wrap (a+1))] m/\f [.i b,.i (aa.wrap (a+1))] m<f [.i b,.i a] d)))))))) (K (.tuple ⟨[]⟩))) d)
def ml(a:OA)(b:BA)(K:VK):WK:=nn a λc=>ld (c.add 0) (xL λd e f=>G8 d e f b λg h i=>nn a λj=>st (j.add 0) (.l g h i) (K (.tuple ⟨[]⟩)))
def sR(a:Int)(K:VK):WK:=cw ((0:Int)<=8) (cw ((0:Int)<=16) (cw ((0:Int)<=24) (cw (1=1/\(1=1/\(1=1/\(1=1/\True)))) (mk [.int .u8 (IntKind.u8.wrap a),.int .u8 (IntKind.u8.wrap (shr .u32 a 8)),.int .u8 (IntKind.u8.wrap (shr .u32 a 16)),.int .u8 (IntKind.u8.wrap (shr .u32 a 24))] λb=>VQ (ah b) 4 λc=>K (.s c)))))
def vN(F:Int)(v:BA)(K:VK):WK:=(λG=>∃(w:LV->World->Prop)(B:LV->World->Nat),w [.int .u32 0,.int .u32 (dj .u32 .xor 4294967295 F),.i (v.size:Int),.i 0] G/\∀(x:Int)(d:Int)(h:Int)(a:Int)(y:World),w [.int .u32 x,.int .u32 d,.i h,.i a] y->(br (decide (a<h)) (AH v a λk=>(λH=>∃(z:LV->World->Prop)(C:LV->World->Nat),z [.int .u32 x,.int .u32 (dj .u32 .xor d (IntKind.u32.wrap (k.toNat:Int))),.i a,.i h,.i a,.b (decide (a<h)),.i a,.int .u32 d,.s v,.i a,.int .u8 (k.toNat:Int),.int .u32 (IntKind.u32.wrap (k.toNat:Int)),.int .u32 (dj .u32 .xor d (IntKind.u32.wrap (k.toNat:Int))),.i 0] H/\∀(e:Int)(c:Int)(l:Int)(f:Int)(g:Int)(m:Bool)(n:Int)(o:Int)(p:BA)(q:Int)(r:Int)(t:Int)(u:Int)(j:Int)(A:World),z [.int .u32 e,.int .u32 c,.i l,.i f,.i g,.b m,.i n,.int .u32 o,.s p,.i q,.int .u8 r,.int .u32 t,.int .u32 u,.i j] A->(br (decide (j<8)) (cw ((0:Int)<=1) ((λD=>z [.int .u32 e,.int .u32 (dj .u32 .xor (shr .u32 c 1) (dj .u32 .and 2197175160 (IntKind.u32.wrap (0-(dj .u32 .and c 1))))),.i l,.i f,.i g,.b m,.i n,.int .u32 o,.s p,.i q,.int .u8 r,.int .u32 t,.int .u32 u,.i (aa.wrap (j+1))] D/\C [.int .u32 e,.int .u32 (dj .u32 .xor (shr .u32 c 1) (dj .u32 .and 2197175160 (IntKind.u32.wrap (0-(dj .u32 .and c 1))))),.i l,.i f,.i g,.b m,.i n,.int .u32 o,.s p,.i q,.int .u8 r,.int .u32 t,.int .u32 u,.i (aa.wrap (j+1))] D<C [.int .u32 e,.int .u32 c,.i l,.i f,.i g,.b m,.i n,.int .u32 o,.s p,.i q,.int .u8 r,.int .u32 t,.int .u32 u,.i j] A))) ((λE=>w [.int .u32 e,.int .u32 c,.i f,.i (aa.wrap (g+1))] E/\B [.int .u32 e,.int .u32 c,.i f,.i (aa.wrap (g+1))] E<B [.int .u32 x,.int .u32 d,.i h,.i a] y))) A)) (K (.int .u32 (dj .u32 .xor 4294967295 d)))) y)
def dN(a:OA)(K:VK):WK:=nn a λb=>ld (b.add 0) (xL λc d f=>VQ c d λe=>K (.s e))
def r9(c:LV)(K:VK):WK:=mk c λb=>aJ (⟨b,0,none⟩:Addr) 3 λd=>vr d (xB λe=>br (!e) (K (.tuple ⟨[.s .empty,.i 1]⟩)) (cw True (mk [.l none 0 0] λa=>ld ((⟨b,0,none⟩:Addr).add 0) (xI .i64 λf=>bt (some (⟨a,0,none⟩:Addr)) 8 f (x0 (ld ((⟨b,0,none⟩:Addr).add 1) (xI .i64 λg=>bt (some (⟨a,0,none⟩:Addr)) 2 g (x0 (ld ((⟨b,0,none⟩:Addr).add 2) (xS λh=>bt (some (⟨a,0,none⟩:Addr)) 2 (h.size:Int) (x0 (ld ((⟨b,0,none⟩:Addr).add 2) (xS λj=>ml (some (⟨a,0,none⟩:Addr)) j (x0 (ld ((⟨b,0,none⟩:Addr).add 2) (xS λk=>strings_Repeat (⟨#[0]⟩:BA) (aa.wrap (104-(k.size:Int))) (xS λm=>ml (some (⟨a,0,none⟩:Addr)) m (x0 (dN (some (⟨a,0,none⟩:Addr)) (xS λn=>vN 0 n (xI .u32 λo=>sR o (xS λp=>ml (some (⟨a,0,none⟩:Addr)) p (x0 (ld ((⟨b,0,none⟩:Addr).add 0) (xI .i64 λq=>bt (some (⟨a,0,none⟩:Addr)) 8 q (x0 (dN (some (⟨a,0,none⟩:Addr)) (xS λr=>K (.tuple ⟨[.s r,.i 0]⟩)))))))))))))))))))))))))))))
def lZ.j1(K:VK)(h:BA)(r g j:Int)(k:OA)(t:Bool):WK:=br t (K (.i 1)) (mS (h.size:Int) (xI .i64 λu=>br (decide (u>(aa.wrap (r-g)))) (K (.i 3)) ((λv=>∃(d:LV->World->Prop)(e:LV->World->Nat),d [.s h,.i 0,.i 0] v/\∀(a:BA)(c:Int)(b:Int)(f:World),d [.s a,.i c,.i b] f->(br (b==0) (mT a none (some (min2 (a.size:Int) 104)) λw=>cw (1=1/\(1=1/\(1=1/\True))) (r9 [.i j,.i b,.s w] (x2 λx y=>(xS λz=>(xI .i64 λE=>ft k (aa.wrap (g+b)) z (xI .i64 λl=>br (l !=0) (K (.i l)) (mT a (some (min2 (a.size:Int) 104)) none λm=>(λn=>d [.s m,.i c,.i (aa.wrap (b+1))] n/\e [.s m,.i c,.i (aa.wrap (b+1))] n<e [.s a,.i c,.i b] f)))) y) x))) (br (decide ((a.size:Int)>0)) (mT a none (some (min2 (a.size:Int) 104)) λA=>cw (1=1/\(1=1/\(1=1/\True))) (r9 [.i j,.i b,.s A] (x2 λB C=>(xS λD=>(xI .i64 λF=>ft k (aa.wrap (g+b)) D (xI .i64 λo=>br (o !=0) (K (.i o)) (mT a (some (min2 (a.size:Int) 104)) none λp=>(λq=>d [.s p,.i c,.i (aa.wrap (b+1))] q/\e [.s p,.i c,.i (aa.wrap (b+1))] q<e [.s a,.i c,.i b] f)))) C) B))) (K (.i 0)))) f))))
def lZ(d:OA)(a b c:Int)(e:BA)(K:VK):WK:=br (decide (c<1)) (lZ.j1 K e b a c d true) (br (decide (c>1152921504606846976)) (lZ.j1 K e b a c d true) (br (decide (a<0)) (lZ.j1 K e b a c d true) (fH d (xI .i64 λf=>br (decide (b>f)) (lZ.j1 K e b a c d true) (lZ.j1 K e b a c d (decide (a>b)))))))
def oO(a:BA)(K:VK):WK:=cw (1=1/\True) (mk [.s a,.b false] λc=>K (.p (some (⟨c,0,none⟩:Addr))))
def fr.j1(K:VK)(a:OA)(b:Int):WK:=nn a λc=>ld (c.add 0) (xS λd=>mT d none (some b) λe=>nn a λf=>ld (f.add 0) (xS λg=>mT g (some b) none λh=>nn a λi=>st (i.add 0) (.s h) (K (.s e))))
def fr(a:OA)(c:Int)(K:VK):WK:=br (a.isNone) (K (.s .empty)) (nn a λd=>ld (d.add 1) (xB λe=>br e (nn a λf=>st (f.add 1) (.b true) (nn a λg=>ld (g.add 1) (xB λh=>br h (K (.s .empty)) (fr.j1 K a c)))) (br (decide (c<0)) (nn a λi=>st (i.add 1) (.b true) (nn a λj=>ld (j.add 1) (xB λk=>br k (K (.s .empty)) (fr.j1 K a c)))) (nn a λl=>ld (l.add 0) (xS λm=>nn a λn=>st (n.add 1) (.b (decide (c>(m.size:Int)))) (nn a λo=>ld (o.add 1) (xB λp=>br p (K (.s .empty)) (fr.j1 K a c))))))))
def aM(p:OA)(q:Int)(K:VK):WK:=fr p (min2 (max2 q 1) 8) (xS λh=>s2b h λr s=>(λt=>∃(j:LV->World->Prop)(m:LV->World->Nat),j [.i 0,.i 0,.l (ah r) h.size s,.i (h.size:Int),.i 0] t/\∀(f:Int)(b:Int)(c:OA)(d:Nat)(g:Nat)(e:Int)(a:Int)(k:World),j [.i f,.i b,.l c d g,.i e,.i a] k->(br (decide (a<e)) (iW c d a 1 λu=>ld u (xI .u8 λn=>cw ((0:Int)<=(aa.wrap (8* a))) ((λo=>j [.i f,.i (dj .i64 .or b (shl .i64 (aa.wrap n) (aa.wrap (8* a)))),.l c d g,.i e,.i (aa.wrap (a+1))] o/\m [.i f,.i (dj .i64 .or b (shl .i64 (aa.wrap n) (aa.wrap (8* a)))),.l c d g,.i e,.i (aa.wrap (a+1))] o<m [.i f,.i b,.l c d g,.i e,.i a] k)))) (K (.i b))) k))
def aM.u:WP|[.pointer a,.int .i64 b],K=>aM a b K|_,_=>no
def xW(h:BA)(K:VK):WK:=mk [.i 0,.i 0] λo=>mk [.i 0,.i 0] λq=>tick (mT h none (some 8) λr=>mT h (some (aa.wrap ((h.size:Int) -8))) none λt=>cw (1=1/\(1=1/\True)) ((λu=>∃(f:LV->World->Prop)(e:LV->World->Nat),f [.p (some (⟨o,0,none⟩:Addr)),.p (some (⟨q,0,none⟩:Addr)),.agg ⟨[.s r,.s t]⟩,.i 0] u/\∀(b:Addr)(c:Addr)(d:LV)(a:Int)(g:World),f [.p (some b),.p (some c),.agg ⟨d⟩,.i a] g->(br (decide (a<2)) (DQ d 2 a (xS λv=>oO v (xP λw=>aM w 8 (xI .i64 λj=>br (decide (j>=1)) (br (decide (j<=1152921504606846976)) (cw ((0:Int)<=a/\a<2) (st (c.add (a.toNat* 1)) (.i j) ((λk=>f [.p (some b),.p (some c),.agg ⟨d⟩,.i (aa.wrap (a+1))] k/\e [.p (some b),.p (some c),.agg ⟨d⟩,.i (aa.wrap (a+1))] k<e [.p (some b),.p (some c),.agg ⟨d⟩,.i a] g)))) ((λl=>f [.p (some b),.p (some c),.agg ⟨d⟩,.i (aa.wrap (a+1))] l/\e [.p (some b),.p (some c),.agg ⟨d⟩,.i (aa.wrap (a+1))] l<e [.p (some b),.p (some c),.agg ⟨d⟩,.i a] g))) ((λm=>f [.p (some b),.p (some c),.agg ⟨d⟩,.i (aa.wrap (a+1))] m/\e [.p (some b),.p (some c),.agg ⟨d⟩,.i (aa.wrap (a+1))] m<e [.p (some b),.p (some c),.agg ⟨d⟩,.i a] g)))))) (aJ c 2 λn=>cw (n.length=2) (jY b n (aJ b 2 λx=>K (.agg ⟨x⟩))))) g)))
def oP(h:OA)(K:VK):WK:=fH h (xI .i64 λo=>(λp=>∃(e:LV->World->Prop)(j:LV->World->Nat),e [.i 0,.i 0,.i o,.i 0] p/\∀(d:Int)(b:Int)(c:Int)(a:Int)(f:World),e [.i d,.i b,.i c,.i a] f->(br (decide (a<c)) (ko h a (x2 λq r=>(xS λs=>(xI .i64 λt=>xW s (xA 2 λk=>mk [.i 0,.i 0] λg=>cw (k.length=2) (jY (⟨g,0,none⟩:Addr) k (cw ((0:Int)<=0/\(0:Int)<2) (ld ((⟨g,0,none⟩:Addr).add ((0:Int).toNat* 1)) (xI .i64 λl=>cw ((0:Int)<=1/\(1:Int)<2) (ld ((⟨g,0,none⟩:Addr).add ((1:Int).toNat* 1)) (xI .i64 λm=>(λn=>e [.i d,.i (max2 (max2 b l) m),.i c,.i (aa.wrap (a+1))] n/\j [.i d,.i (max2 (max2 b l) m),.i c,.i (aa.wrap (a+1))] n<j [.i d,.i b,.i c,.i a] f))))))))) r) q)) (K (.i b))) f))
end Go.Prog
namespace Go.Sep
open Go.Den Go.RowKit Go.Prog Go.cG
def kr(l:List (Int×BA)):LV:=l.flatMap λp=>[.i p.1,.s p.2]
def vB(l:List (Int×BA))(i:Nat)(p:Int×BA)(h:l[i]?=some p):
 (kr l)[i* 2]?=some (.i p.1)/\(kr l)[i* 2+1]?=some (.s p.2):=by
 induction l generalizing i with
 |nil=>simp at h
 |cons q l ih=>
  cases i with
  |zero=>simp at h;subst h;exact⟨rfl,rfl⟩
  |succ i=>
   simp only[bX] at h;have:=ih i h;rw[show(i+1)* 2=(i* 2)+2 from by omega,show i* 2+2+1=(i* 2+1)+2 from by omega];exact this
def tH(sb lb:OA)(n sc m lc:Nat)(ops arm:Int):LV:=[.l sb n sc,.l lb m lc,.i ops,.i arm]
def gN(d:Nat)(D:aY):HP:=S8 λ(v:(OA×Nat)×(OA×Nat))=>
 sep (pt d (tH v.1.1 v.2.1 D.safe.length v.1.2 D.later.length v.2.2 D.ops D.arm))
  (sep (own v.1.1 D.safe.length v.1.2 1 (D.safe.map .string)) (own v.2.1 D.later.length v.2.2 2 (kr D.later)))
section
variable {W w:World} {L:LH} {k d:Nat} {D:aY}
def tG(h:St W w L)(hk:L[k]?=some (gN d D)):∃sb sc lb lc,
 St W w (pt d (tH sb lb D.safe.length sc D.later.length lc D.ops D.arm)::own sb D.safe.length sc 1 (D.safe.map .string)::own lb D.later.length lc 2 (kr D.later)::L.eraseIdx k):=by
 obtain⟨⟨⟨sb,sc⟩,lb,lc⟩,h1⟩:=(h.focus hk).ex;have h2:=h1.split;have h3:=(h2.perm (cf.swap _ _ _)).split;refine⟨sb,sc,lb,lc,h3.perm ?_⟩;exact(cf.cons _ (cf.swap _ _ _)).trans (cf.swap _ _ _)
def rT{sb lb:OA}{sc lc n m:Nat}{safe:List BA}{later:List (Int×BA)}{ops arm:Int}{A:HP}(hk:L[k]?=some A)(hn:n=safe.length)(hm:m=later.length)
 (h:St W w (pt d (tH sb lb n sc m lc ops arm)::own sb n sc 1 (safe.map .string)::own lb m lc 2 (kr later)::L.eraseIdx k)):St W w (L.set k (gN d ⟨safe,later,ops,arm⟩)):=by
 subst hn hm;refine St.ss (A:=A) ?_ hk;refine St.rA ((sb,sc),(lb,lc)) (St.join ?_);refine St.perm ?_ (cf.swap _ _ _);exact St.join (h.perm ((cf.swap _ _ _).trans (cf.cons _ (cf.swap _ _ _))))
def Di(h:St W w L)(hk:L[k]?=some (gN d D)):∃sb sc lb lc,w.cell? ⟨d,0,none⟩=some (.l sb D.safe.length sc)/\w.cell? ⟨d,1,none⟩=some (.l lb D.later.length lc)/\
 w.cell? ⟨d,2,none⟩=some (.i D.ops)/\w.cell? ⟨d,3,none⟩=some (.i D.arm):=by
 obtain⟨sb,sc,lb,lc,hs⟩:=tG h hk;exact⟨sb,sc,lb,lc,(hs.cell (k:=0) rfl).1,(hs.cell (k:=0) rfl).1,(hs.cell (k:=0) rfl).1,(hs.cell (k:=0) rfl).1⟩
def CE{i:Int}{K:VK}(h:St W w L)(hk:L[k]?=some (gN d D))(hK:K (.b (decide (D.is i))) w):pN (ah d) i K w:=by
 obtain⟨sb,sc,lb,lc,h0,_⟩:=Di h hk;unfold pN;simp only[nz,ae,af];refine fV (λhi=>IU h0 ?_) (λhi=>?_)
 ·simp only[nz,ae,af];have e:decide (i<(D.safe.length:Int))=decide (D.is i):=decide_eq_decide.2 (by unfold aY.is;omega);rw[e];exact hK
 ·have e:false=decide (D.is i):=(ao (by unfold aY.is;omega)).symm;rw[e];exact hK
def yV{K:VK}(h:St W w L)(hk:L[k]?=some (gN d D))(hK:∀w',St W w' (L.set k (gN d D.tick))->K (.b D.wu) w'):nh (ah d) K w:=by
 obtain⟨sb,sc,lb,lc,hs⟩:=tG h hk;unfold nh;simp only[nz,ae,af];apply cZ (k:=0) hs rfl rfl;simp only[nz,ae,af];refine pn (k:=0) hs rfl (aK rfl) rfl λw hs=>?_;simp only[nz,ae,af] at hs;apply cZ (k:=0) hs rfl rfl;simp only[nz,ae,af];refine Jr (λh0=>?_) (λh0=>?_)
 ·have e:D.tick=⟨D.safe,D.later,aa.wrap (D.ops+1),D.arm⟩:=by simp[aY.tick,h0]
  have e2:D.wu=false:=by simp[aY.wu,h0]
  rw[e,e2] at hK;exact hK _ (rT hk rfl rfl hs)
 ·apply cZ (k:=0) hs rfl rfl;simp only[nz,ae,af];refine pn (k:=0) hs rfl (aK rfl) rfl λw hs=>?_;simp only[nz,ae,af] at hs;apply cZ (k:=0) hs rfl rfl;simp only[nz,ae,af];have e:D.tick=⟨D.safe,D.later,aa.wrap (D.ops+1),aa.wrap (D.arm-1)⟩:=by simp[aY.tick,h0]
  have e2:D.wu=(aa.wrap (D.arm-1)==0):=by simp[aY.wu,h0]
  rw[e,e2] at hK;exact hK _ (rT hk rfl rfl hs)
end
section
variable {W w:World} {L:LH} {k d:Nat} {D:aY}
def FT(c:UInt8):∀n,FU [c] n=bw n c
 |0=>rfl
 |n+1=>by simp[FU,FT c n,List.replicate_succ]
def Eb{s:BA}{n:Int}{K:VK}(h:St W w L)(h0:0<=n)(h1:s.size* n.toNat<=140737488355328)(h2:n<=9223372036854775807)(hK:∀w',St W w' L->K (.s ⟨(FU s.data.toList n.toNat).toArray⟩) w'):strings_Repeat s n K w:=
 ⟨⟨h0,h1,h2⟩,λw' hb=>hK w' (h.uB hb)⟩
def G5{K:VK}(h:St W w L)(hK:∀w',St W w' L->K (.s (nE 128)) w'):rr K w:=by
 unfold rr;refine Eb h (by decide) (by decide) (by decide) λw h=>?_;simp only[nz,ae,af];have e:(⟨(FU (⟨#[0]⟩:BA).data.toList (128:Int).toNat).toArray⟩:BA)=nE 128:=by
  show(⟨(FU [0] 128).toArray⟩:BA)=_;rw[FT];rfl
 rw[e];exact hK w h
def oq{K:VK}(h:St W w L)(hk:L[k]?=some (gN d D))(hK:K (.i (D.safe.length:Int)) w):fH (ah d) K w:=by
 obtain⟨sb,sc,lb,lc,h0,h1,h2,h3⟩:=Di h hk;unfold fH;simp only[nz,ae,af];apply IU h0;simp only[nz,ae,af];exact hK
def H6{K:VK}(h:St W w L)(hk:L[k]?=some (gN d D))(hK:K (.i D.ops) w):k9 (ah d) K w:=by
 obtain⟨sb,sc,lb,lc,h0,h1,h2,h3⟩:=Di h hk;unfold k9;simp only[nz,ae,af];apply IU h2;simp only[nz,ae,af];exact hK
def H7{n:Int}{K:VK}(h:St W w L)(hk:L[k]?=some (gN d D))(hK:∀w',St W w' (L.set k (gN d (D.uC n)))->K (.tuple ⟨[]⟩) w'):oS (ah d) n K w:=by
 obtain⟨sb,sc,lb,lc,hs⟩:=tG h hk;unfold oS;simp only[nz,ae,af];refine pn (k:=0) hs rfl (aK rfl) rfl λw hs=>?_;simp only[nz,ae,af] at hs;exact hK _ (rT hk rfl rfl hs)
def ug(s:BA)(i j:Nat):(s.extract i j).size=min j s.size-i:=by simp[ByteArray.size_extract]
def Ht(n i:Nat):(nE n).extract i n=nE (n-i):=by
 apply ByteArray.ext;simp[nE,ByteArray.data_extract]
def Bm{i:Int}{s:BA}{b:Bool}{K:VK}(h:St W w L)(hk:L[k]?=some (gN d D))(iz:D.Ok)(hb:b=decide (128<s.size))(hi:D.is i)
 (hK:∀w',St W w' (L.set k (gN d (D.write i s).1))->K (.i (D.write i s).2) w'):ft.j1 K (ah d) s i b w:=by
 unfold ft.j1;refine uA (λh1=>?_) (λh1=>?_)
 ·have h2:128<s.size:=by rw[hb] at h1;exact aR h1
  have e:D.write i s=(D,1):=by simp[aY.write,h2]
  rw[e] at hK;apply hK w;rw[nW hk];exact h
 ·have h2: ¬128<s.size:=by rw[hb] at h1;exact bj h1
  refine yV h hk λw h=>?_;simp only[nz,ae,af];refine uA (λh3=>?_) (λh3=>?_)
  ·have e:D.write i s=(D.tick,8):=by simp[aY.write,h2,hi,h3]
   rw[e] at hK;exact hK w h
  ·have e:D.write i s=({D.tick with later:=D.later++[(i,aY.pad s)]},0):=by simp[aY.write,h2,hi,h3]
   rw[e] at hK;refine mK h λw h=>?_;have td:(L.set k (gN d D.tick))[k]?=some (gN d D.tick):=kn hk;obtain⟨sb,sc,lb,lc,hs⟩:=tG h td;apply cZ (k:=0) hs rfl rfl;simp only[nz,ae,af];refine G5 hs λw hs=>?_;simp only[nz,ae,af];apply kI (k:=0) hs rfl rfl;have qc:(nE 128).size=128:=vk 128;unfold mT;simp only[nz,ae,af];refine⟨⟨by omega,by omega⟩,?_⟩;have e3:(nE 128).extract (s.size:Int).toNat (nE 128).size=nE (128-s.size):=by rw[qc,ak];exact Ht 128 s.size
   rw[e3];refine⟨by rw[vk];omega,?_⟩;refine jh hs λr w hs=>?_;apply kI (k:=1) hs rfl rfl;have hl:D.later.length<1099511627776:=iz.less;refine vh (k:=3) (n:=D.tick.later.length) (ys:=[.i i,.s (aY.pad s)]) hs rfl (He (k':=0) hs rfl rfl λj v hj=>by rw[aB];exact hj) (by simp) rfl
    (by show(D.later.length+1)* 24<=_;omega) (by show D.later.length+1<=_;omega) (by simp[Value.oneCell']) λb' c' w hs=>?_
   simp only[nz,ae,af] at hs⊢;refine pn (k:=1) hs rfl (aK rfl) rfl λw hs=>?_;simp only[nz,ae,af] at hs;apply hK w;have e4:kr D.tick.later++[.i i,.s (aY.pad s)]=kr (D.later++[(i,aY.pad s)]):=by simp[kr,aY.tick]
   rw[e4] at hs;have h5:=rT (sb:=sb) (sc:=sc) (lb:=b') (lc:=c') (safe:=D.safe) (ops:=D.tick.ops) (arm:=D.tick.arm) td rfl (by simp[aY.tick]) hs.drop;rw[jH] at h5;exact h5
def EA{i:Int}{s:BA}{K:VK}(h:St W w L)(hk:L[k]?=some (gN d D))(iz:D.Ok)
 (hK:∀w',St W w' (L.set k (gN d (D.write i s).1))->K (.i (D.write i s).2) w'):ft (ah d) i s K w:=by
 unfold ft;simp only[nz,ae,af];apply CE h hk;simp only[nz,ae,af];by_cases hi:D.is i
 ·rw[aw hi];simp only[nz,ae,af];refine Bm h hk iz ?_ hi hK;exact decide_eq_decide.2 (by omega)
 ·rw[ao hi];simp only[nz,ae,af];have e:D.write i s=(D,1):=by simp[aY.write,hi]
  rw[e] at hK;unfold ft.j1;simp only[nz,ae,af];apply hK w;rw[nW hk];exact h
end
def aX{n:Int}(h: -9223372036854775808<=n/\n<=9223372036854775807):aa.wrap n=n:=by
 simp only[IntKind.wrap,IntKind.bits,IntKind.signed,dQ,decide_eq_true_eq,Int.reducePow,Nat.reduceSub,ge_iff_le];split<;>omega
def nI(i:Nat)(h:i<9223372036854775807:=by omega):aa.wrap ((i:Int)+1)=((i+1:Nat):Int):=by
 rw[aX (by omega)];omega
def uo(l m:List (Int×BA))(i:Int):aY.last (l++m) i=(aY.last m i).or (aY.last l i):=by
 unfold aY.last;rw[List.reverse_append,List.find?_append];cases List.find? (λp=>p.1==i) m.reverse<;>simp
def Ah(p:Int×BA)(l:List (Int×BA))(i:Int):aY.last (p::l) i=(aY.last l i).or (if p.1==i then some p.2 else none):=by
 rw[show p::l=[p]++l from rfl,uo]
 congr 1
 simp only[aY.last,List.reverse_singleton,List.find?_cons,List.find?_nil];cases h:(p.1==i)<;>simp
section
variable {W w:World} {L:LH} {k d:Nat} {D:aY}
def drop_cons{α:Type}{l:List α}{j:Nat}{p:α}(h:l[j]?=some p):l.drop j=p::l.drop (j+1):=by
 obtain⟨hj,he⟩:=ar.1 h;rw[<-he];exact gh hj
def sW{i:Int}{K:VK}(h:St W w L)(hk:L[k]?=some (gN d D))(iz:D.Ok)(hK:K (.tuple ⟨[.s (D.read i).1,.i (D.read i).2]⟩) w):ko (ah d) i K w:=by
 obtain⟨sb,sc,lb,lc,hs⟩:=tG h hk;have hl:=iz.less;unfold ko;simp only[nz,ae,af];apply CE h hk;simp only[nz,ae,af];by_cases hi:D.is i
 case neg=>
  rw[ao hi];simp only[nz,ae,af];have e:D.read i=(.empty,1):=by simp[aY.read,hi]
  rw[e] at hK;exact hK
 rw[aw hi];simp only[nz,ae,af];have e:D.read i=(D.now i,0):=by simp[aY.read,hi]
 rw[e] at hK;apply cZ (k:=0) hs rfl rfl;simp only[nz,ae,af];refine⟨λus w'=>∃j:Nat,us=[.s .empty,.i 0,.i ((j:Int) -1)]/\w'=w/\j<=D.later.length/\aY.last (D.later.drop j) i=none,
  λus _=>match us with|[_,_,.int _ n]=>(n+1).toNat|_=>0,⟨D.later.length,by rw[aX (by omega)],rfl,aI _,by simp[aY.last]⟩,?_⟩
 rintro s1 n2 n3 w2 ⟨j,he,rfl,hj,hn⟩;cases he
 refine fV (λh0=>?_) (λh0=>?_)
 ·obtain⟨m,rfl⟩:∃m,j=m+1:=⟨j-1,by omega⟩;have cn:m<D.later.length:=by omega
  obtain⟨p,hp⟩:∃p,D.later[m]?=some p:=⟨D.later[m],by simp[cn]⟩;obtain⟨Yf,GB⟩:=vB _ _ _ hp;have em:((m+1:Nat):Int) -1=(m:Int):=by omega
  rw[em];apply cZ (k:=0) hs rfl rfl;simp only[nz,ae,af];refine sH (k:=2) hs rfl (by omega) λr hr=>?_;subst hr;simp only[nz,ae,af];refine A3 (k:=2) hs rfl (v:=.i p.1) (by rw[ak];exact Yf) ?_;simp only[nz,ae,af];refine Jr (λh1=>?_) (λh1=>?_)
  ·apply cZ (k:=0) hs rfl rfl;simp only[nz,ae,af];refine sH (k:=2) hs rfl (by omega) λr' hr'=>?_;cases hr'
   simp only[nz,ae,af];refine A3 (k:=2) hs rfl (v:=.s p.2) (by rw[ak];exact GB) ?_;simp only[nz,ae,af];have:D.now i=p.2:=by
    unfold aY.now;have vD:D.later=D.later.take m++(p::D.later.drop (m+1)):=by rw[<-drop_cons hp,dy]
    rw[vD,uo,Ah,hn];simp[h1]
   rw[this] at hK;exact hK
  ·have e5:aa.wrap ((m:Int) -1)=(m:Int) -1:=aX (by omega);rw[e5];refine⟨⟨m,rfl,rfl,by omega,?_⟩,by omega⟩;rw[drop_cons hp,Ah,hn];simp[h1]
 ·have hj0:j=0:=by omega
  subst hj0;have DT:aY.last D.later i=none:=hn;apply cZ (k:=0) hs rfl rfl;simp only[nz,ae,af];refine sH (k:=1) hs rfl hi λr hr=>?_;subst hr;have cn:i.toNat<D.safe.length:=by have:=hi.1;have:=hi.2;omega
  apply A3 (k:=1) hs rfl (v:=.s (D.safe[i.toNat])) (by simp[cn]);simp only[nz,ae,af];have:D.now i=D.safe[i.toNat]:=by
   unfold aY.now;rw[DT];simp[cn]
  rw[this] at hK;exact hK
def Wh{n:Int}{K:VK}(h:St W w L)(hK:∀d w',St W w' (gN d (aY.new n)::L)->K (.p (ah d)) w'):um n K w:=by
 unfold um;simp only[nz,ae,af];refine jh h λd w hs=>?_;have hn:0<=min2 (max2 n 0) 4096/\min2 (max2 n 0) 4096<=4096:=by unfold min2 max2;split<;>split<;>omega
 refine⟨λus w'=>∃(j:Nat)(b:OA)(c:Nat),us=[.p none,.p (ah d),.i (min2 (max2 n 0) 4096),.i j]/\(j:Int)<=min2 (max2 n 0) 4096/\
  St W w' (pt d [.l b j c,.l none 0 0,.i 0,.i 0]::own b j c 1 ((bw j (nE 128)).map .string)::L),
  λus _=>match us with|[_,_,.int _ m,.int _ j]=>(m-j).toNat|_=>0,⟨0,none,0,rfl,hn.1,?_⟩,?_⟩
 ·refine(hs.push (sA 1)).perm (cf.swap _ _ _)
 ·rintro p1 a1 n2 n3 w2 ⟨j,b,c,he,hj,hs⟩;cases he
  refine fV (λh0=>?_) (λh0=>?_)
  ·refine mK hs λw hs=>?_;simp only[nz,ae,af];apply cZ (k:=0) hs rfl rfl;simp only[nz,ae,af];refine G5 hs λw hs=>?_;simp only[nz,ae,af];apply kI (k:=0) hs rfl rfl;simp only[nz,ae,af];refine jh hs λr w hs=>?_;apply kI (k:=1) hs rfl rfl;refine vh (k:=2) (ys:=[.s (nE 128)]) hs rfl (He (k':=0) hs rfl rfl λj v hj=>by rw[aB];exact hj) (by simp) rfl (by omega) (by omega) (by simp[Value.oneCell']) λb' c' w hs=>?_;simp only[nz,ae,af] at hs⊢;refine pn (k:=1) hs rfl (aK rfl) rfl λw hs=>?_;simp only[nz,ae,af] at hs;have e5:=nI j;rw[e5];refine⟨⟨j+1,b',c',rfl,by omega,?_⟩,by omega⟩;have e6:(bw j (nE 128)).map Value.string++[.s (nE 128)]=(bw (j+1) (nE 128)).map .s:=by
    rw[List.replicate_succ'];simp
   rw[e6] at hs;exact hs.drop
  ·have HN:(j:Int)=min2 (max2 n 0) 4096:=by omega
   have hj3:j=(min2 (max2 n 0) 4096).toNat:=by omega
   have ib:St W w2 (pt d [.l b j c,.l none 0 0,.i 0,.i 0]::own b j c 1 ((bw j (nE 128)).map .string)::own none 0 0 2 (kr [])::L):=
    (hs.push (A:=own none 0 0 2 (kr [])) (sA 2)).perm ((cf.swap _ _ _).trans (cf.cons _ (cf.swap _ _ _)))
   have:=rT (L:=gN d (aY.new n)::L) (k:=0) (A:=gN d (aY.new n)) (safe:=bw j (nE 128)) (later:=[]) (ops:=0) (arm:=0) rfl (by simp) rfl ib;apply hK d w2;have e7:aY.new n=⟨bw j (nE 128),[],0,0⟩:=by unfold aY.new;rw[<-hj3]
   rw[e7];exact this
end
def oY(l:List (Int×BA))(safe:List BA):(l.foldl aY.put safe).length=safe.length:=by
 induction l generalizing safe with
 |nil=>rfl
 |cons p l ih=>rw[List.foldl_cons,ih];simp[aY.put]
def Hv{α:Type}{l:List α}{j:Nat}{p:α}(h:l[j]?=some p):l.take (j+1)=l.take j++[p]:=by
 obtain⟨hj,he⟩:=ar.1 h;rw[qV hj,he]
section
variable {W w:World} {L:LH} {k d:Nat} {D:aY}
def vT{K:VK}(h:St W w L)(hk:L[k]?=some (gN d D))(iz:D.Ok)(hK:∀w',St W w' (L.set k (gN d D.sync.1))->K (.i D.sync.2) w'):l7 (ah d) K w:=by
 have hl:=iz.less;unfold l7;simp only[nz,ae,af];refine yV h hk λw h=>?_;simp only[nz,ae,af];refine uA (λhf=>?_) (λhf=>?_)
 ·have e:D.sync=(D.tick,8):=by simp[aY.sync,hf]
  rw[e] at hK;exact hK w h
 have e:D.sync=({D.tick with safe:=D.later.foldl aY.put D.safe,later:=[]},0):=by simp[aY.sync,hf]
 rw[e] at hK;have td:(L.set k (gN d D.tick))[k]?=some (gN d D.tick):=kn hk;obtain⟨sb,sc,lb,lc,hs⟩:=tG h td;apply cZ (k:=0) hs rfl rfl;simp only[nz,ae,af];refine⟨λus w'=>∃j:Nat,us=[.i 0,.l lb D.later.length lc,.i D.later.length,.i j]/\j<=D.later.length/\
    St W w' (pt d (tH sb lb D.safe.length sc D.later.length lc D.tick.ops D.tick.arm)::own sb D.safe.length sc 1 (((D.later.take j).foldl aY.put D.safe).map .string)::own lb D.later.length lc 2 (kr D.later)::(L.set k (gN d D.tick)).eraseIdx k),
  λus _=>match us with|[_,_,_,.int _ j]=>D.later.length-j.toNat|_=>0,⟨0,rfl,aF _,hs⟩,?_⟩
 rintro n1 ov mo qf n2 n3 w2 ⟨j,he,hj,hs⟩;cases he
 refine fV (λh0=>?_) (λh0=>?_)
 ·have cn:j<D.later.length:=by omega
  obtain⟨p,hp⟩:∃p,D.later[j]?=some p:=⟨D.later[j],by simp[cn]⟩;obtain⟨Yf,GB⟩:=vB _ _ _ hp;obtain⟨UT,hpa,hpb⟩:=iz.later p (cD hp);refine sH (k:=2) hs rfl (by omega) λr hr=>?_;subst hr;refine EW (k:=2) (ys:=[.i p.1,.s p.2]) hs rfl rfl (λi v hi=>?_) ?_
  ·rw[ak]
   match i,hi with
   |0,hi=>simp at hi;subst hi;exact Yf
   |1,hi=>simp at hi;subst hi;exact GB
  refine jh hs λr1 w hs=>?_;simp only[nz,ae,af];refine⟨rfl,kk (k:=0) hs rfl (aK rfl) (by simp[Value.oneCell']) λw hs=>?_⟩;simp only[nz,ae,af] at hs;refine mK hs λw hs=>?_;apply cZ (k:=1) hs rfl rfl;simp only[nz,ae,af];apply cZ (k:=0) hs rfl rfl;simp only[nz,ae,af];apply cZ (k:=0) hs rfl rfl;simp only[nz,ae,af];refine sH (k:=2) hs rfl ⟨hpa,hpb⟩ λr hr=>?_;subst hr;refine CO (k:=2) hs rfl (by rw[bQ,oY];omega) rfl λw hs=>?_;simp only[nz,ae,af] at hs;have e5:=nI j;rw[e5];refine⟨⟨j+1,rfl,by omega,?_⟩,by omega⟩;have e6:(((D.later.take j).foldl aY.put D.safe).map Value.string).set (p.1.toNat* 1) (.s p.2)=((D.later.take (j+1)).foldl aY.put D.safe).map .s:=by
   rw[Hv hp,List.foldl_append,mF];simp[aY.put,List.map_set]
  rw[e6] at hs;exact hs.drop
 ·have HN:j=D.later.length:=by omega
  subst HN;refine pn (k:=0) hs rfl (aK rfl) rfl λw hs=>?_;simp only[nz,ae,af] at hs;apply hK w;rw[aV] at hs;have vU:=(hs.perm ((cf.cons _ (cf.swap _ _ _)).trans (cf.swap _ _ _))).drop.push (sA 2);have yR:=vU.perm ((cf.swap _ _ _).trans (cf.cons _ (cf.swap _ _ _)));have h5:=rT (sb:=sb) (sc:=sc) (lb:=none) (lc:=0) (safe:=D.later.foldl aY.put D.safe) (later:=[]) (ops:=D.tick.ops) (arm:=D.tick.arm) td (oY _ _).symm rfl yR;rw[jH] at h5;exact h5
def GV(mask torn c:Int)(safe:List BA)(k:Nat)(p:Int×BA):(aY.od mask torn c safe k p).length=safe.length:=by
 unfold aY.od;split
 ·simp
 ·split<;>simp
def fe(mask torn c:Int)(safe:List BA)(later:List (Int×BA)):Nat->List BA
 |0=>safe
 |j+1=>match later[j]? with
  |some p=>aY.od mask torn c (fe mask torn c safe later j) j p
  |none=>fe mask torn c safe later j
def jC(mask torn c:Int)(safe:List BA)(later:List (Int×BA)):∀j,(fe mask torn c safe later j).length=safe.length
 |0=>rfl
 |j+1=>by
  simp only[fe];cases later[j]? with
  |none=>exact jC mask torn c safe later j
  |some p=>simp only[];rw[GV];exact jC mask torn c safe later j
def yz(mask torn c:Int)(later:List (Int×BA))(safe:List BA):∀(n j:Nat),j+n=later.length->
 aY.xC mask torn c j (later.drop j) (fe mask torn c safe later j)=fe mask torn c safe later later.length
 |0,j,h=>by
  have:j=later.length:=by omega
  subst this;simp[aY.xC]
 |n+1,j,h=>by
  have cn:j<later.length:=by omega
  rw[gh cn];simp only[aY.xC];have:=yz mask torn c later safe n (j+1) (by omega);simp only[fe,aj cn] at this;exact this
def EB{mask torn cut:Int}{K:VK}(h:St W w L)(hk:L[k]?=some (gN d D))(iz:D.Ok)(hK:∀w',St W w' (L.set k (gN d (D.fJ mask torn cut)))->K (.tuple ⟨[]⟩) w'):
 ni (ah d) mask torn cut K w:=by
 have hl:=iz.less;have hc:0<=min2 (max2 cut 0) 128/\min2 (max2 cut 0) 128<=128:=by unfold min2 max2;split<;>split<;>omega
 have hcr:D.fJ mask torn cut=⟨fe mask torn (min2 (max2 cut 0) 128) D.safe D.later D.later.length,[],D.ops,0⟩:=by
  unfold aY.fJ;have:=yz mask torn (min2 (max2 cut 0) 128) D.later D.safe D.later.length 0 (by omega);simp only[jf,fe] at this;rw[this]
 rw[hcr] at hK;obtain⟨sb,sc,lb,lc,hs⟩:=tG h hk;unfold ni;generalize min2 (max2 cut 0) 128=c at *;simp only[nz,ae,af];apply cZ (k:=0) hs rfl rfl;simp only[nz,ae,af];refine⟨λus w'=>∃j:Nat,us=[.i c,.l lb D.later.length lc,.i D.later.length,.i j]/\j<=D.later.length/\
    St W w' (pt d (tH sb lb D.safe.length sc D.later.length lc D.ops D.arm)::own sb D.safe.length sc 1 ((fe mask torn c D.safe D.later j).map .string)::own lb D.later.length lc 2 (kr D.later)::L.eraseIdx k)/\
    (∀s∈fe mask torn c D.safe D.later j,s.size=128),
  λus _=>match us with|[_,_,_,.int _ j]=>D.later.length-j.toNat|_=>0,⟨0,rfl,aF _,hs,iz.safe⟩,?_⟩
 rintro n4 ov mo qf n5 n6 w2 ⟨j,he,hj,hs,Db⟩;cases he
 refine fV (λh0=>?_) (λh0=>?_)
 ·have cn:j<D.later.length:=by omega
  obtain⟨p,hp⟩:∃p,D.later[j]?=some p:=⟨D.later[j],by simp[cn]⟩;obtain⟨Yf,GB⟩:=vB _ _ _ hp;obtain⟨UT,hpa,hpb⟩:=iz.later p (cD hp);have Cg:p.1.toNat<(fe mask torn c D.safe D.later j).length:=by rw[jC];omega
  have e5:=nI j;have gS:fe mask torn c D.safe D.later (j+1)=aY.od mask torn c (fe mask torn c D.safe D.later j) j p:=by
   simp only[fe,hp]
  have adT:∀s∈fe mask torn c D.safe D.later (j+1),s.size=128:=by
   rw[gS];intro s hs;unfold aY.od at hs;split at hs
   ·rcases fq hs with hs|hs
    ·exact Db s hs
    ·rw[hs];have:=Db _ (bF Cg);rw[jW,aj Cg,dI,ByteArray.size_append,ug,ug,this,UT];omega
   ·split at hs
    ·rcases fq hs with hs|hs
     ·exact Db s hs
     ·rw[hs];exact UT
    ·exact Db s hs
  refine sH (k:=2) hs rfl (by omega) λr hr=>?_;subst hr;refine EW (k:=2) (ys:=[.i p.1,.s p.2]) hs rfl rfl (λi v hi=>?_) ?_
  ·rw[ak]
   match i,hi with
   |0,hi=>simp at hi;subst hi;exact Yf
   |1,hi=>simp at hi;subst hi;exact GB
  refine jh hs λr1 w hs=>?_;simp only[nz,ae,af];refine⟨rfl,kk (k:=0) hs rfl (aK rfl) (by simp[Value.oneCell']) λw hs=>?_⟩;simp only[nz,ae,af] at hs;rw[e5];have fin:∀w',St W w' (pt r1 (over [.i 0,.s .empty] 0 [.i p.1,.s p.2])::pt d (tH sb (ah r) D.safe.length sc D.later.length lc D.ops D.arm)::own sb D.safe.length sc 1 ((fe mask torn c D.safe D.later (j+1)).map .string)::own (ah r) D.later.length lc 2 (kr D.later)::L.eraseIdx k)->
                                                                                                                                                       (∃j':Nat,[Value.int .i64 c,.l (ah r) D.later.length lc,.i D.later.length,.i ((j+1:Nat):Int)]=[.i c,.l (ah r) D.later.length lc,.i D.later.length,.i j']/\j'<=D.later.length/\
   St W w' (pt d (tH sb (ah r) D.safe.length sc D.later.length lc D.ops D.arm)::own sb D.safe.length sc 1 ((fe mask torn c D.safe D.later j').map .string)::own (ah r) D.later.length lc 2 (kr D.later)::L.eraseIdx k)/\
   (∀s∈fe mask torn c D.safe D.later j',s.size=128)):=λw' hs=>⟨j+1,rfl,by omega,hs.drop,adT⟩
  refine Jr (λht=>?_) (λht=>?_)
  ·refine mK hs λw hs=>?_;apply cZ (k:=1) hs rfl rfl;simp only[nz,ae,af];apply cZ (k:=0) hs rfl rfl;simp only[nz,ae,af];apply cZ (k:=0) hs rfl rfl;simp only[nz,ae,af];unfold mT;simp only[nz,ae,af];refine⟨⟨hc.1,by omega⟩,?_⟩;apply cZ (k:=1) hs rfl rfl;simp only[nz,ae,af];apply cZ (k:=0) hs rfl rfl;simp only[nz,ae,af];refine sH (k:=2) hs rfl ⟨hpa,hpb⟩ λr' hr'=>?_;subst hr';refine A3 (k:=2) hs rfl (v:=.s ((fe mask torn c D.safe D.later j)[p.1.toNat])) (by rw[mF,fy,aj Cg];rfl) ?_;simp only[nz,ae,af];have h1:=Db _ (bF Cg);refine⟨⟨hc.1,by rw[h1];exact hc.2⟩,⟨by rw[ug,ug];omega,?_⟩⟩;refine sH (k:=2) hs rfl ⟨hpa,hpb⟩ λr'' aff=>?_;cases aff
   refine CO (k:=2) hs rfl (by rw[bQ,mF];exact Cg) rfl λw hs=>?_;simp only[nz,ae,af] at hs;refine⟨fin w ?_,by omega⟩;rw[gS];have e6:(aY.od mask torn c (fe mask torn c D.safe D.later j) j p).map Value.string=((fe mask torn c D.safe D.later j).map Value.string).set (p.1.toNat* 1) (.s (p.2.extract 0 c.toNat++((fe mask torn c D.safe D.later j)[p.1.toNat]).extract c.toNat ((fe mask torn c D.safe D.later j)[p.1.toNat]).size)):=by
    unfold aY.od;rw[ai ht,List.map_set,mF,jW,aj Cg];rfl
   rw[e6];exact hs
  ·refine⟨by unfold min2;split<;>omega,?_⟩;refine uA (λhb=>?_) (λhb=>?_)
   ·refine mK hs λw hs=>?_;apply cZ (k:=1) hs rfl rfl;simp only[nz,ae,af];apply cZ (k:=0) hs rfl rfl;simp only[nz,ae,af];apply cZ (k:=0) hs rfl rfl;simp only[nz,ae,af];refine sH (k:=2) hs rfl ⟨hpa,hpb⟩ λr' hr'=>?_;subst hr';refine CO (k:=2) hs rfl (by rw[bQ,mF];exact Cg) rfl λw hs=>?_;simp only[nz,ae,af] at hs;refine⟨fin w ?_,by omega⟩;rw[gS];have e6:(aY.od mask torn c (fe mask torn c D.safe D.later j) j p).map Value.string=((fe mask torn c D.safe D.later j).map Value.string).set (p.1.toNat* 1) (.s p.2):=by
     unfold aY.od;have rH:aY.bit mask j=true:=hb;rw[ag ht,ai rH,List.map_set,mF]
    rw[e6];exact hs
   ·refine⟨fin w ?_,by omega⟩;rw[gS];have e6:aY.od mask torn c (fe mask torn c D.safe D.later j) j p=fe mask torn c D.safe D.later j:=by
     unfold aY.od;rw[ag ht,ag (by rw[aY.bit,hb];exact cO)]
    rw[e6];exact hs
 ·have HN:j=D.later.length:=by omega
  subst HN;refine pn (k:=0) hs rfl (aK rfl) rfl λw hs=>?_;simp only[nz,ae,af] at hs;refine pn (k:=0) hs rfl (aK rfl) rfl λw hs=>?_;simp only[nz,ae,af] at hs;apply hK w;have vU:=(hs.perm ((cf.cons _ (cf.swap _ _ _)).trans (cf.swap _ _ _))).drop.push (sA 2);have yR:=vU.perm ((cf.swap _ _ _).trans (cf.cons _ (cf.swap _ _ _)));exact rT (sb:=sb) (sc:=sc) (lb:=none) (lc:=0) (safe:=fe mask torn c D.safe D.later D.later.length) (later:=[]) (ops:=D.ops) (arm:=0) hk (jC _ _ _ _ _ _).symm rfl yR
end
def Ro(W:World)(b:OA)(n e:Nat)(xs:LV):Prop:=
 xs.length=n* e/\(b=none->n=0)/\∀a,b=some a->∀j v,xs[j]?=some v->W.cell? (a.add j)=some v
def add_add(a:Addr)(m n:Nat):(a.add m).add n=a.add (m+n):=by
 unfold Addr.add;by_cases h1:m=0
 ·subst h1;simp
 ·by_cases h2:n=0
  ·subst h2;simp[h1]
  ·rw[ag h1,ag h2,ag (by omega)];simp;omega
section
variable {W w:World} {L:LH} {b:OA} {n e:Nat} {xs:LV}
def E6{W:World}{a:Addr}{v:Value}(h:W.cell? a=some v):a.block<W.heap.size:=by
 unfold World.cell? at h;cases hb:W.heap[a.block]? with
 |none=>simp[hb] at h
 |some x=>exact(Array.getElem?_eq_some_iff.1 hb).1
def St.old(h:St W w L){a:Addr}(ha:a.block<W.heap.size):w.cell? a=W.cell? a:=h.1.cell ha
def Ro.cell(hr:Ro W b n e xs){a:Addr}(hb:b=some a)(h:St W w L){j:Nat}{v:Value}(hv:xs[j]?=some v):w.cell? (a.add j)=some v:=by
 have h2:=hr.2.2 a hb j v hv;rw[h.old (E6 h2)];exact h2
end
def tB(x y:BA):nG x y=decide (x=y):=by
 unfold nG;by_cases h:x=y
 ·subst h;simp
 ·have:x.toList≠y.toList:=by
   rw[ByteArray.toList_eq,ByteArray.toList_eq];intro he;exact h (ByteArray.ext (tt he))
  simp[h,this]
end Go.Sep
namespace Go.Prog
def ZG:Nat:=241
def aaB:Nat:=5
end Go.Prog
namespace Go.Prog
open Go.Den Go.RowKit
def Z4(B b:Nat)(l:List UInt8)(w:World):Prop:=Go.Lib.IsBuilder ZG aaB B b (Go.Lib.byteCells l) w
def iI(p:OA)(s:BA)(K:VK):WK:=λw=>∃B b l,p=ah b/\Z4 B b l w/\l.length+s.size<=140737488355328/\B<=w.heap.size/\
 ∀w',Z4 B b (l++s.data.toList) w'->Below B w w'->K (.tuple ⟨[.i s.size,.nilIface]⟩) w'
def iI.u:WP:=λargs K=>match args with|[.pointer p,.string s]=>iI p s K|_=>no
def kj(p:OA)(K:VK):WK:=λw=>∃B b l,p=ah b/\Z4 B b l w/\B<=w.heap.size/\∀w',Below B w w'->K (.s ⟨l.toArray⟩) w'
def kj.u:WP:=λargs K=>match args with|[.pointer p]=>kj p K|_=>no
end Go.Prog
namespace Go.Prog
open Go.Den
abbrev ad(r o:Nat):Addr:=⟨r,o,none⟩
def rV(x y c:Int)(K:VK):WK:=cw ((0<=x/\0<=y)/\0<=c/\c<=1) (K (.tuple ⟨[.u ((x+y+c)%18446744073709551616),.u ((x+y+c)/18446744073709551616)]⟩))
def rV.u:WP:=λargs K=>match args with|[.int .u64 x,.int .u64 y,.int .u64 c]=>rV x y c K|_=>no
def rU(x y c:Int)(K:VK):WK:=cw ((0<=x/\0<=y/\y<18446744073709551616)/\0<=c/\c<=1) (K (.tuple ⟨[.u ((x-y-c)%18446744073709551616),.u (if x<y+c then 1 else 0)]⟩))
def rU.u:WP:=λargs K=>match args with|[.int .u64 x,.int .u64 y,.int .u64 c]=>rU x y c K|_=>no
end Go.Prog
namespace Go.Up
open Go.Sep Go.Den Go.RowKit Go.Prog
def T(W:World)(L:LH)(X:WK):Prop:=∀w,St W w L->X w
class Lc{α:Type}(P:α->HP)(L:LH)(x:outParam α)(f:outParam (α->LH)):Prop where
 at_:∃k:Nat,L[k]?=some (P x)/\∀y,f y=L.set k (P y)
instance Lc.head{α:Type}{P:α->HP}{x:α}{L:LH}:Lc P (P x::L) x (λy=>P y::L):=⟨0,rfl,λ_=>rfl⟩
instance Lc.tail{α:Type}{P:α->HP}{A:HP}{x:α}{L:LH}{f:α->LH}[h:Lc P L x f]:Lc P (A::L) x (λy=>A::f y):=by
 obtain⟨k,h1,h2⟩:=h.at_;exact⟨k+1,h1,λy=>by rw[h2];rfl⟩
def Lc.same{α:Type}{P:α->HP}{L:LH}{x:α}{f:α->LH}(h:Lc P L x f):f x=L:=by
 obtain⟨k,h1,h2⟩:=h.at_;rw[h2];exact nW h1
theorem Lc.next{α:Type}{P:α->HP}{L:LH}{x:α}{f:α->LH}(h:Lc P L x f)(y:α):Lc P (f y) y f:=by
 obtain⟨k,h1,h2⟩:=h.at_;exact⟨k,by rw[h2];exact kn h1,λz=>by rw[h2,h2,jH]⟩
class Sub(cs:LV)(o n:Nat)(xs:outParam (LV)):Prop where
 is:xs.length=n/\∀j v,xs[j]?=some v->cs[o+j]?=some v
class Wr(cs:LV)(o:Nat)(xs:LV)(ds:outParam (LV)):Prop where
 is:over cs o xs=ds/\o+xs.length<=cs.length/\∀v∈xs,v.oneCell'=true
class One(v:Value):Prop where
 is:v.oneCell'=true
instance{k:IntKind}{n:Int}:One (.int k n):=⟨rfl⟩
instance{b:OA}{n c:Nat}:One (.l b n c):=⟨rfl⟩
instance Wr.head{a v:Value}{cs:LV}[h:One v]:Wr (a::cs) 0 [v] (v::cs):=⟨by simp[over],by simp,λu hu=>by simp at hu;rw[hu];exact h.is⟩
instance Wr.tail{a v:Value}{cs ds:LV}{o:Nat}[h:Wr cs o [v] ds]:Wr (a::cs) (o+1) [v] (a::ds):=by
 obtain⟨h1,h2,h3⟩:=h.is;refine⟨?_,by simp at h2⊢;omega,h3⟩;rw[<-h1];simp only[over,qt,List.take_succ_cons,lY,Nat.add_right_comm o 1 1,List.drop_succ_cons]
section
variable {W:World} {L M:LH} {X Y:WK}
def T.at{w:World}(h:T W L X)(hs:St W w L):X w:=h w hs
def T.drop{A:HP}(h:T W L X):T W (A::L) X:=λw hs=>h w hs.drop
def T.perm(h:T W L X)(p:M.Perm L):T W M X:=λw hs=>h w (hs.perm p)
def T.fin{K:VK}{v v':Value}(h:T W L (K v))(e:v'=v):T W L (K v'):=e▸h
def uF{cs:LV}{F:Nat->WK}(h:∀r,T W (pt r cs::L) (F r)):T W L (mk cs F):=λw hs=>jh hs λr w' h'=>h r w' h'
def JC(h:T W L X):T W L (tick X):=λw hs=>mK hs λw' h'=>h w' h'
def dU{p:Prop}(hp:p)(h:T W L X):T W L (cw p X):=λw hs=>⟨hp,h w hs⟩
def TL(h:T W L X):T W L (cw True X):=dU trivial h
def aaL{a b:Nat}(e:a=b)(h:T W L X):T W L (cw (a=b) X):=dU e h
def aaM{a b:Nat}{q:Prop}(e:a=b)(h:T W L (cw q X)):T W L (cw (a=b/\q) X):=λw hs=>⟨⟨e,(h w hs).1⟩,(h w hs).2⟩
def dz{b:Bool}(h1:b=true->T W L X)(h2:b=false->T W L Y):T W L (br b X Y):=λw hs=>uA (λe=>h1 e w hs) (λe=>h2 e w hs)
def ir{b:Bool}(e:b=true)(h:T W L X):T W L (br b X Y):=by subst e;exact h
def ef{b:Bool}(e:b=false)(h:T W L Y):T W L (br b X Y):=by subst e;exact h
def qe(h:T W L X):T W L (br true X Y):=h
def jU(h:T W L Y):T W L (br false X Y):=h
def su(h:T W L Y):T W L (br (!true) X Y):=h
def aaO(h:T W L X):T W L (br (!false) X Y):=h
def zg{α:Type}{a:α}(h:T W L Y):T W L (br (Option.isNone (some a)) X Y):=h
def aaN{α:Type}{a:α}(h:T W L X):T W L (br (!(Option.isNone (some a))) X Y):=h
def Eh{a:Addr}{K:Addr->WK}(h:T W L (K a)):T W L (nn (some a) K):=h
def aaP(h1:T W L X)(h2:T W L Y):T W L (both X Y):=λw hs=>⟨h1 w hs,h2 w hs⟩
def kd{k:IntKind}{K:Int->WK}{n:Int}(h:T W L (K n)):T W L (xI k K (.int k n)):=λw hs=>by rw[Zy];exact h w hs
def oF{K:Bool->WK}{n:Bool}(h:T W L (K n)):T W L (xB K (.b n)):=λw hs=>by rw[Ti];exact h w hs
def qz{K:BA->WK}{n:BA}(h:T W L (K n)):T W L (xS K (.s n)):=λw hs=>by rw[Th];exact h w hs
def tz{K:OA->WK}{n:OA}(h:T W L (K n)):T W L (xP K (.p n)):=λw hs=>by rw[Zw];exact h w hs
def uE{K:OA->Nat->Nat->WK}{b:OA}{n c:Nat}(h:T W L (K b n c)):T W L (xL K (.l b n c)):=λw hs=>by rw[Zx];exact h w hs
def Eg{n:Nat}{K:LV->WK}{cs:LV}(hn:cs.length=n)(h:T W L (K cs)):T W L (xA n K (.agg ⟨cs⟩)):=λw hs=>by rw[yM];exact⟨hn,h w hs⟩
def BF(h:T W L X):T W L (x0 X (.tuple ⟨[]⟩)):=λw hs=>by rw[ZD];exact h w hs
def aaD{K:Value->Value->WK}{a b:Value}(h:T W L (K a b)):T W L (x2 K (.tuple ⟨[a,b]⟩)):=λw hs=>by rw[ZA];exact h w hs
def acD{K:Value->Value->Value->WK}{a b c:Value}(h:T W L (K a b c)):T W L (x3 K (.tuple ⟨[a,b,c]⟩)):=λw hs=>by rw[Zz];exact h w hs
variable {r o n:Nat} {cs xs ds:LV} {f:LV->LH} {v:Value}
def nU{K:VK}[i:Lc (pt r) L cs f](hv:cs[o]?=some v)(h:T W L (K v)):T W L (ld ⟨r,o,none⟩ K):=λw hs=>
 let⟨_,hk,_⟩:=i.at_;cZ hs hk hv (h w hs)
def acF{K:LV->WK}[i:Lc (pt r) L cs f][s:Sub cs o n xs](h:T W L (K xs)):T W L (aJ ⟨r,o,none⟩ n K):=λw hs=>
 let⟨_,hk,_⟩:=i.at_;kq hs hk s.is.1 s.is.2 (h w hs)
def aeY[i:Lc (pt r) L cs f][s:Wr cs o [v] ds](h:T W (f ds) X):T W L (st ⟨r,o,none⟩ v X):=λw hs=>by
 obtain⟨k,hk,e⟩:=i.at_;obtain⟨s1,s2,s3⟩:=s.is;refine pn hs hk (by have:=s2;simp at this;omega) (s3 v (by simp)) λw' h'=>h w' ?_;rw[e,<-s1];have:over cs o [v]=cs.set o v:=by
  apply qX;intro j;rw[B2 s2,dk];simp only[bE,cR] at s2⊢;by_cases h1:j<o
  ·rw[ai h1,ag (by omega)]
  ·by_cases h2:o=j
   ·subst h2;rw[ag h1,ai (by omega),ai rfl,ai (by omega)];simp
   ·rw[ag h1,ag (by omega),ag h2]
 rw[this];exact h'
def ZJ[i:Lc (pt r) L cs f][s:Wr cs o xs ds](h:T W (f ds) X):T W L (jY ⟨r,o,none⟩ xs X):=λw hs=>by
 obtain⟨k,hk,e⟩:=i.at_;obtain⟨s1,s2,s3⟩:=s.is;refine kk hs hk s2 s3 λw' h'=>h w' ?_;rw[e,<-s1];exact h'
def Fz{k:Nat}{K:VK}(h:T W L (ld ⟨r,k,none⟩ K)):T W L (ld (Addr.add ⟨r,0,none⟩ k) K):=by rw[ia,aB];exact h
def TH{k:Nat}{K:VK}(h:T W L (ld ⟨r,o+k,none⟩ K)):T W L (ld (Addr.add ⟨r,o,none⟩ k) K):=by rw[ia];exact h
def Xf{k:Nat}{K:LV->WK}(h:T W L (aJ ⟨r,k,none⟩ n K)):T W L (aJ (Addr.add ⟨r,0,none⟩ k) n K):=by rw[ia,aB];exact h
def aaI{k:Nat}{K:LV->WK}(h:T W L (aJ ⟨r,o+k,none⟩ n K)):T W L (aJ (Addr.add ⟨r,o,none⟩ k) n K):=by rw[ia];exact h
def aaF{k:Nat}(h:T W L (st ⟨r,k,none⟩ v X)):T W L (st (Addr.add ⟨r,0,none⟩ k) v X):=by rw[ia,aB];exact h
def Pp{k:Nat}(h:T W L (st ⟨r,o+k,none⟩ v X)):T W L (st (Addr.add ⟨r,o,none⟩ k) v X):=by rw[ia];exact h
def Xd{k:Nat}(h:T W L (jY ⟨r,k,none⟩ xs X)):T W L (jY (Addr.add ⟨r,0,none⟩ k) xs X):=by rw[ia,aB];exact h
def aaK{k:Nat}(h:T W L (kp ⟨r,k,none⟩ xs X)):T W L (kp (Addr.add ⟨r,0,none⟩ k) xs X):=by rw[ia,aB];exact h
def zf[i:Lc (pt r) L cs f](hv:cs[o]?=some v)(h:T W L X):T W L (kp ⟨r,o,none⟩ [v] X):=λw hs=>
 let⟨_,hk,_⟩:=i.at_;kI hs hk hv (h w hs)
def TJ[i:Lc (pt r) L cs f][s:Sub cs o n xs](h:T W L X):T W L (kp ⟨r,o,none⟩ xs X):=λw hs=>
 let⟨_,hk,_⟩:=i.at_;Qf hs hk s.is.2 (h w hs)
def Pr{a:Addr}{K:LV->WK}(hg:xs.length=n/\∀j v,xs[j]?=some v->W.cell? (a.add j)=some v)(h:T W L (K xs)):T W L (aJ a n K):=λw hs=>
 ⟨xs,hg.1,λj v hj=>by
  have:=hg.2 j v hj
  rw[hs.old (E6 this)];exact this,h w hs⟩
def Pt{zs ys:LV}{K:Bool->WK}(h1:oZ zs xs=true)(h2:oZ zs ys=true)(h:T W L (K (iK xs ys))):T W L (sm zs xs ys K):=λw hs=>⟨⟨h1,h2⟩,h w hs⟩
end
def nm(n:Nat):LV:=[.u ((n/18446744073709551616:Nat):Int),.u ((n%18446744073709551616:Nat):Int)]
instance{n:Nat}:Sub (nm n) 0 2 (nm n):=⟨rfl,λj v h=>by rw[aB];exact h⟩
instance{cs:LV}{a b:Value}:Sub (a::b::cs) 0 2 [a,b]:=⟨rfl,λj v h=>by
 rw[aB]
 match j with
 |0=>exact h
 |1=>exact h
 |j+2=>simp at h⟩
def Vg(a b:Nat):iK (nm a) (nm b)=decide (a=b):=by
 simp only[nm,iK,Bc,Bool.and_true];by_cases h:a=b
 ·subst h;simp
 ·rw[ao h,Bool.and_eq_false_iff];by_cases h1:a/18446744073709551616=b/18446744073709551616
  ·right
   have: ¬((a%18446744073709551616:Nat):Int)=((b%18446744073709551616:Nat):Int):=by omega
   simpa using this
  ·left
   have: ¬((a/18446744073709551616:Nat):Int)=((b/18446744073709551616:Nat):Int):=by omega
   simpa using this
def ZL{W:World}{L:LH}{a b:Nat}{K:Bool->WK}(h:T W L (K (decide (a=b)))):T W L (sm [.u 0,.u 0] (nm a) (nm b) K):=Pt rfl rfl (by rw[Vg];exact h)
def acI{W:World}{L:LH}{X:WK}{r o m:Nat}{cs:LV}{f:LV->LH}[i:Lc (pt r) L cs f][s:Sub cs o 2 (nm m)](h:T W L X):T W L (kp ⟨r,o,none⟩ (nm m) X):=TJ (n:=2) h
def acK{W:World}{L:LH}{a:Nat}{K:Bool->WK}(h:T W L (K (decide (a=0)))):T W L (sm [.u 0,.u 0] (nm a) [.u 0,.u 0] K):=ZL (b:=0) h
class Wk(L:LH)(X:WK)(L':outParam (LH))(Y:outParam WK):Prop where
 go:∀W,T W L' Y->T W L X
class Eqn(a b:Nat):Prop where
 is:a=b
instance{a:Nat}:Eqn a a:=⟨rfl⟩
class Eqv(a b:Value):Prop where
 is:a=b
instance{a:Value}:Eqv a a:=⟨rfl⟩
class Ln(cs:LV)(n:outParam Nat):Prop where
 is:cs.length=n
instance:Ln [] 0:=⟨rfl⟩
instance{a:Value}{l:LV}{n:Nat}[h:Ln l n]:Ln (a::l) (n+1):=⟨by rw[bE,h.is]⟩
instance{a b:LV}{n m:Nat}[h:Ln a n][g:Ln b m]:Ln (a++b) (n+m):=⟨by rw[av,h.is,g.is]⟩
instance{cs:LV}{k n:Nat}[h:Ln cs k][e:Eqn k n]:Eqn cs.length n:=⟨by rw[h.is,e.is]⟩
instance{n:Nat}:Ln (nm n) 2:=⟨rfl⟩
section
variable {L:LH} {X Y:WK} {r o n:Nat} {cs xs ds:LV} {f:LV->LH} {v:Value}
instance{k:IntKind}{K:Int->WK}{n:Int}:Wk L (xI k K (.int k n)) L (K n):=⟨λ_ h=>kd h⟩
instance{K:Bool->WK}{n:Bool}:Wk L (xB K (.b n)) L (K n):=⟨λ_ h=>oF h⟩
instance{K:BA->WK}{n:BA}:Wk L (xS K (.s n)) L (K n):=⟨λ_ h=>qz h⟩
instance{K:OA->WK}{n:OA}:Wk L (xP K (.p n)) L (K n):=⟨λ_ h=>tz h⟩
instance{K:OA->Nat->Nat->WK}{b:OA}{n c:Nat}:Wk L (xL K (.l b n c)) L (K b n c):=⟨λ_ h=>uE h⟩
instance:Wk L (x0 X (.tuple ⟨[]⟩)) L X:=⟨λ_ h=>BF h⟩
instance{K:Value->Value->WK}{a b:Value}:Wk L (x2 K (.tuple ⟨[a,b]⟩)) L (K a b):=⟨λ_ h=>aaD h⟩
instance{K:Value->Value->Value->WK}{a b c:Value}:Wk L (x3 K (.tuple ⟨[a,b,c]⟩)) L (K a b c):=⟨λ_ h=>acD h⟩
instance:Wk L (cw True X) L X:=⟨λ_ h=>TL h⟩
instance{a b:Nat}[i:Eqn a b]:Wk L (cw (a=b) X) L X:=⟨λ_ h=>aaL i.is h⟩
instance{a b:Nat}{q:Prop}[i:Eqn a b]:Wk L (cw (a=b/\q) X) L (cw q X):=⟨λ_ h=>aaM i.is h⟩
instance:Wk L (br true X Y) L X:=⟨λ_ h=>h⟩
instance:Wk L (br false X Y) L Y:=⟨λ_ h=>h⟩
instance:Wk L (br (!true) X Y) L Y:=⟨λ_ h=>h⟩
instance:Wk L (br (!false) X Y) L X:=⟨λ_ h=>h⟩
instance{α:Type}{a:α}:Wk L (br (Option.isNone (some a)) X Y) L Y:=⟨λ_ h=>h⟩
instance{α:Type}{a:α}:Wk L (br (!(Option.isNone (some a))) X Y) L X:=⟨λ_ h=>h⟩
instance{a:Addr}{K:Addr->WK}:Wk L (nn (some a) K) L (K a):=⟨λ_ h=>h⟩
instance:Wk L (tick X) L X:=⟨λ_ h=>JC h⟩
instance{k:Nat}{K:VK}:Wk L (ld (Addr.add ⟨r,0,none⟩ k) K) L (ld ⟨r,k,none⟩ K):=⟨λ_ h=>Fz h⟩
instance{k:Nat}{K:LV->WK}:Wk L (aJ (Addr.add ⟨r,0,none⟩ k) n K) L (aJ ⟨r,k,none⟩ n K):=⟨λ_ h=>Xf h⟩
instance{k:Nat}:Wk L (st (Addr.add ⟨r,0,none⟩ k) v X) L (st ⟨r,k,none⟩ v X):=⟨λ_ h=>aaF h⟩
instance{k:Nat}:Wk L (jY (Addr.add ⟨r,0,none⟩ k) xs X) L (jY ⟨r,k,none⟩ xs X):=⟨λ_ h=>Xd h⟩
instance{k:Nat}:Wk L (kp (Addr.add ⟨r,0,none⟩ k) xs X) L (kp ⟨r,k,none⟩ xs X):=⟨λ_ h=>aaK h⟩
instance{K:LV->WK}[i:Lc (pt r) L cs f][s:Sub cs o n xs]:Wk L (aJ ⟨r,o,none⟩ n K) L (K xs):=⟨λ_ h=>acF h⟩
instance[i:Lc (pt r) L cs f][s:Wr cs o [v] ds]:Wk L (st ⟨r,o,none⟩ v X) (f ds) X:=⟨λ_ h=>aeY h⟩
instance[i:Lc (pt r) L cs f][s:Wr cs o xs ds]:Wk L (jY ⟨r,o,none⟩ xs X) (f ds) X:=⟨λ_ h=>ZJ h⟩
instance{m:Nat}[i:Lc (pt r) L cs f][s:Sub cs o 2 (nm m)]:Wk L (kp ⟨r,o,none⟩ (nm m) X) L X:=⟨λ_ h=>acI h⟩
instance{a b:Nat}{K:Bool->WK}:Wk L (sm [.u 0,.u 0] (nm a) (nm b) K) L (K (decide (a=b))):=⟨λ_ h=>ZL h⟩
instance{a:Nat}{K:Bool->WK}:Wk L (sm [.u 0,.u 0] (nm a) [.u 0,.u 0] K) L (K (decide (a=0))):=⟨λ_ h=>acK h⟩
end
class Gt(cs:LV)(o:Nat)(v:outParam Value):Prop where
 is:cs[o]?=some v
instance{a:Value}{l:LV}:Gt (a::l) 0 a:=⟨rfl⟩
instance{a v:Value}{l:LV}{o:Nat}[h:Gt l o v]:Gt (a::l) (o+1) v:=⟨by rw[bX];exact h.is⟩
instance{n:Nat}:Gt (nm n) 0 (.u (n/18446744073709551616:Nat)):=⟨rfl⟩
instance{n:Nat}:Gt (nm n) 1 (.u (n%18446744073709551616:Nat)):=⟨rfl⟩
class Lv(L:LH)(r o:Nat)(v:outParam Value):Prop where
 ld:∀{W:World} {K:VK},T W L (K v)->T W L (ld ⟨r,o,none⟩ K)
 kp:∀{W:World} {X:WK},T W L X->T W L (kp ⟨r,o,none⟩ [v] X)
instance{L:LH}{r o:Nat}{v:Value}{cs:LV}{f:LV->LH}[i:Lc (pt r) L cs f][g:Gt cs o v]:Lv L r o v:=⟨λh=>nU (i:=i) g.is h,λh=>zf (i:=i) g.is h⟩
section
variable {L:LH} {X A B:WK} {r o n:Nat} {v:Value} {K:VK} {cs:LV}
instance[i:Lv L r o v]:Wk L (ld ⟨r,o,none⟩ K) L (K v):=⟨λ_ h=>i.ld h⟩
instance{u:Value}[i:Lv L r o u][e:Eqv u v]:Wk L (kp ⟨r,o,none⟩ [v] X) L X:=⟨λ_ h=>by rw[<-e.is];exact i.kp h⟩
instance{K:LV->WK}{k:Nat}[h:Ln cs k][e:Eqn k n]:Wk L (xA n K (.agg ⟨cs⟩)) L (K cs):=⟨λ_ g=>Eg (by rw[h.is,e.is]) g⟩
end
class Wb(X:WK)(A B:outParam WK):Prop where
 is:X=both A B
instance{A B:WK}:Wb (both A B) A B:=⟨rfl⟩
def wb{W:World}{L:LH}{X A B:WK}[i:Wb X A B](h:T W L A)(g:T W L B):T W L X:=by rw[i.is];exact aaP h g
class Ws(L:LH)(X:WK)(Q:outParam (World->Prop)):Prop where
 go:∀W,Q W->T W L X
class Wp(L:LH)(X:WK)(Q:outParam (World->Prop)):Prop where
 go:∀W,Q W->T W L X
section
variable {L L':LH} {X Y:WK} {Q:World->Prop}
instance(priority:=low):Ws L X (λW=>T W L X):=⟨λ_ h=>h⟩
instance[j:Wp L X Q]:Ws L X Q:=⟨j.go⟩
instance[i:Wk L X L' Y][j:Ws L' Y Q]:Wp L X Q:=⟨λW h=>i.go W (j.go W h)⟩
instance{cs:LV}{F:Nat->WK}{Q:Nat->World->Prop}[j:∀r,Ws (pt r cs::L) (F r) (Q r)]:Wp L (mk cs F) (λW=>∀r,Q r W):=⟨λW h=>uF λr=>(j r).go W (h r)⟩
def ws{W:World}[i:Wp L X Q](h:Q W):T W L X:=i.go W h
def ga{W:World}{p:Prop}[Decidable p](h1:p->T W L X)(h2: ¬p->T W L Y):T W L (br (decide p) X Y):=dz (λh=>h1 (aR h)) (λh=>h2 (bj h))
end
class Has(R L:LH):Prop where
 sub:∀{W w:World},St W w L->St W w R
instance Has.refl{R:LH}:Has R R:=⟨λh=>h⟩
instance(priority:=low) Has.tail{R L:LH}{A:HP}[h:Has R L]:Has R (A::L):=⟨λhs=>h.sub hs.drop⟩
instance{R L:LH}[h:Has R L]:Has ([]++R) L:=⟨λhs=>h.sub hs⟩
def T.dp{W:World}{M L:LH}{X:WK}[i:Has M L](h:T W M X):T W L X:=λw hs=>h w (i.sub hs)
end Go.Up
namespace Go.Prog
open Go.Den
def uY(a:BA)(K:VK):WK:=tick (br (decide ((aa.wrap ((a.size:Int) -4))>=0)) (mT a none (some (aa.wrap ((a.size:Int) -4))) λc=>mT a (some (aa.wrap ((a.size:Int) -4))) none λd=>vN 0 c (xI .u32 λe=>sR e (xS λf=>K (.b (nG f d))))) (K (.b false)))
def nV(h:BA)(i:Int)(K:VK):WK:=(λj=>∃(c:LV->World->Prop)(e:LV->World->Nat),c [.s h,.s .empty] j/\∀(a:BA)(b:BA)(d:World),c [.s a,.s b] d->(br (decide ((a.size:Int)>0)) (AH a 0 λk=>br ((k.toNat:Int)==i) (mT a (some 1) none λf=>(λg=>c [.s f,.s b] g/\e [.s f,.s b] g<e [.s a,.s b] d)) (K (.s a))) (K (.s a))) d)
def nt(h:BA)(i:Int)(K:VK):WK:=(λj=>∃(c:LV->World->Prop)(e:LV->World->Nat),c [.s h,.s .empty] j/\∀(a:BA)(b:BA)(d:World),c [.s a,.s b] d->(br (decide ((a.size:Int)>0)) (AH a (aa.wrap ((a.size:Int) -1)) λk=>br ((k.toNat:Int)==i) (mT a none (some (aa.wrap ((a.size:Int) -1))) λf=>(λg=>c [.s f,.s b] g/\e [.s f,.s b] g<e [.s a,.s b] d)) (K (.s a))) (K (.s a))) d)
def il.j2(K:VK):WK:=no
def il.j3(K:VK)(a b:BA)(c:Bool):WK:=br c (tick (AH a 0 λd=>AH a 0 λe=>nt b (d.toNat:Int) (xS λf=>nV f (e.toNat:Int) (xS λg=>K (.s g))))) (il.j2 K)
def il.j1(K:VK)(b a:BA)(c:Bool):WK:=br c (K (.s b)) (br ((a.size:Int)==1) (AH a 0 λd=>il.j3 K a b (decide ((d.toNat:Int)<128))) (il.j3 K a b false))
def il(a b:BA)(K:VK):WK:=br (nG a (⟨#[]⟩:BA)) (il.j1 K a b true) (il.j1 K a b (nG b (⟨#[]⟩:BA)))
def mn.j1(K:VK)(a:Nat)(h:BA)(j:Bool):WK:=br j (cw True (cw (3=3) (jY (⟨a,0,none⟩:Addr) [.i 0,.i 0,.s .empty] (aJ (⟨a,0,none⟩:Addr) 3 λk=>K (.tuple ⟨[.agg ⟨k⟩,.b false]⟩))))) (oO h (xP λd=>aM d 8 (xI .i64 λl=>aM d 2 (xI .i64 λm=>cw (1=1/\(1=1/\True)) (mk [.i 0,.i 0,.s .empty] λc=>cw (3=3) (jY (⟨c,0,none⟩:Addr) [.i l,.i m,.s .empty] (aM d 2 (xI .i64 λf=>br (decide (f>104)) (cw True (cw (3=3) (jY (⟨a,0,none⟩:Addr) [.i 0,.i 0,.s .empty] (aJ (⟨a,0,none⟩:Addr) 3 λn=>K (.tuple ⟨[.agg ⟨n⟩,.b false]⟩))))) (fr d f (xS λo=>st ((⟨c,0,none⟩:Addr).add 2) (.s o) (fr d (aa.wrap (104-f)) (xS λp=>fr d 4 (xS λz=>tick (ld ((⟨c,0,none⟩:Addr).add 0) (xI .i64 λe=>aM d 8 (xI .i64 λq=>kp ((⟨c,0,none⟩:Addr).add 0) [.i e] (br (q !=e) (cw True (cw (3=3) (jY (⟨a,0,none⟩:Addr) [.i 0,.i 0,.s .empty] (aJ (⟨a,0,none⟩:Addr) 3 λr=>K (.tuple ⟨[.agg ⟨r⟩,.b false]⟩))))) (il p (⟨#[0]⟩:BA) (xS λt=>kp ((⟨c,0,none⟩:Addr).add 0) [.i e] (br (!(nG t (⟨#[]⟩:BA))) (cw True (cw (3=3) (jY (⟨a,0,none⟩:Addr) [.i 0,.i 0,.s .empty] (aJ (⟨a,0,none⟩:Addr) 3 λu=>K (.tuple ⟨[.agg ⟨u⟩,.b false]⟩))))) (aJ (⟨c,0,none⟩:Addr) 3 λv=>vr v (xB λw=>kp ((⟨c,0,none⟩:Addr).add 0) [.i e] (br (!w) (cw True (cw (3=3) (jY (⟨a,0,none⟩:Addr) [.i 0,.i 0,.s .empty] (aJ (⟨a,0,none⟩:Addr) 3 λx=>K (.tuple ⟨[.agg ⟨x⟩,.b false]⟩))))) (aJ (⟨c,0,none⟩:Addr) 3 λg=>cw (g.length=3) (jY (⟨a,0,none⟩:Addr) g (aJ (⟨a,0,none⟩:Addr) 3 λy=>K (.tuple ⟨[.agg ⟨y⟩,.b true]⟩)))))))))))))))))))))))))))
def mn(a:BA)(K:VK):WK:=mk [.i 0,.i 0,.s .empty] λb=>br ((a.size:Int)!=128) (mn.j1 K b a true) (mT a none (some 120) λc=>uY c (xB λd=>mn.j1 K b a (!d)))
def jc.j1(K:VK)(k:Int)(q:OA)(r t:Int)(u:Bool):WK:=br u (K (.tuple ⟨[.s .empty,.b false]⟩)) (mkT ZG [.p none,.l none 0 0] λv=>mS k (xI .i64 λw=>(λx=>∃(h:LV->World->Prop)(m:LV->World->Nat),h [.s .empty,.b false,.p (some (⟨v,0,none⟩:Addr)),.i w,.i 0] x/\∀(f:BA)(g:Bool)(c:Addr)(d:Int)(a:Int)(j:World),h [.s f,.b g,.p (some c),.i d,.i a] j->(br (decide (a<d)) (ko q (aa.wrap (r+a)) (x2 λy z=>(xS λA=>(xI .i64 λO=>mn A (x2 λB C=>(xA 3 λn=>(xB λD=>mk [.i 0,.i 0,.s .empty] λe=>cw (n.length=3) (jY (⟨e,0,none⟩:Addr) n (br (!D) (K (.tuple ⟨[.s .empty,.b false]⟩)) (ld ((⟨e,0,none⟩:Addr).add 0) (xI .i64 λE=>br (E !=t) (K (.tuple ⟨[.s .empty,.b false]⟩)) (ld ((⟨e,0,none⟩:Addr).add 1) (xI .i64 λF=>br (F !=a) (K (.tuple ⟨[.s .empty,.b false]⟩)) (ld ((⟨e,0,none⟩:Addr).add 2) (xS λG=>br ((G.size:Int)!=(min2 (aa.wrap (k-(aa.wrap (a* 104)))) 104)) (K (.tuple ⟨[.s .empty,.b false]⟩)) (ld ((⟨e,0,none⟩:Addr).add 2) (xS λH=>iI (some c) H (x2 λI J=>(xI .i64 λP=>(λQ=>(λo=>h [.s f,.b g,.p (some c),.i d,.i (aa.wrap (a+1))] o/\m [.s f,.b g,.p (some c),.i d,.i (aa.wrap (a+1))] o<m [.s f,.b g,.p (some c),.i d,.i a] j)) J) I)))))))))))) C) B)) z) y)) (kj (some c) (xS λM=>K (.tuple ⟨[.s M,.b true]⟩)))) j)))
def jc(c:OA)(a e d b:Int)(K:VK):WK:=br (decide (a<0)) (jc.j1 K b c a d true) (fH c (xI .i64 λf=>br (decide (e>f)) (jc.j1 K b c a d true) (br (decide (a>e)) (jc.j1 K b c a d true) (br (decide (b<0)) (jc.j1 K b c a d true) (br (decide (b>425984)) (jc.j1 K b c a d true) (mS b (xI .i64 λg=>jc.j1 K b c a d (decide (g>(aa.wrap (e-a)))))))))))
def bN(l m:Int)(K:VK):WK:=(λn=>∃(f:LV->World->Prop)(j:LV->World->Nat),f [.s .empty,.i (min2 (max2 l 1) 8),.u (IntKind.u64.wrap m),.s .empty,.i 0] n/\∀(e:BA)(b:Int)(c:Int)(a:BA)(d:Int)(g:World),f [.s e,.i b,.u c,.s a,.i d] g->(br (decide (d<b)) (cw ((256:Int)≠0) (cw (1=1/\True) (mk [.int .u8 (IntKind.u8.wrap (c.tmod (256:Int)))] λo=>VQ (ah o) 1 λh=>cw (((a.size+h.size:Nat):Int)<=9223372036854775807) (cw ((256:Int)≠0) ((λk=>f [.s e,.i b,.u (IntKind.u64.wrap (c.tdiv (256:Int))),.s (a++h),.i (aa.wrap (d+1))] k/\j [.s e,.i b,.u (IntKind.u64.wrap (c.tdiv (256:Int))),.s (a++h),.i (aa.wrap (d+1))] k<j [.s e,.i b,.u c,.s a,.i d] g)))))) (K (.s a))) g)
def sy.j1(K:VK)(a:Nat)(b:Int)(c:Bool):WK:=br c (cw True (cw (5=5) (jY (⟨a,0,none⟩:Addr) [.i 0,.i 0,.i 0,.i 0,.i 0] (aJ (⟨a,0,none⟩:Addr) 5 λd=>K (.tuple ⟨[.agg ⟨d⟩,.i 1]⟩))))) (cw ((5:Int)≠0) (cw (1=1/\(1=1/\(1=1/\(1=1/\(1=1/\True))))) (cw (5=5) (jY (⟨a,0,none⟩:Addr) [.i 2,.i (aa.wrap (2+(aa.wrap ((aa.wrap ((aa.wrap (b-2))* 2)).tdiv (5:Int))))),.i (aa.wrap ((aa.wrap ((aa.wrap (b-2))* 2)).tdiv (5:Int))),.i (aa.wrap (2+(aa.wrap (2* (aa.wrap ((aa.wrap ((aa.wrap (b-2))* 2)).tdiv (5:Int))))))),.i b] (aJ (⟨a,0,none⟩:Addr) 5 λe=>K (.tuple ⟨[.agg ⟨e⟩,.i 0]⟩))))))
def sy(a:Int)(K:VK):WK:=mk [.i 0,.i 0,.i 0,.i 0,.i 0] λb=>br (decide (a<12)) (sy.j1 K b a true) (sy.j1 K b a (decide (a>4096)))
def pA(b:LV)(c:Int)(K:VK):WK:=mk b λa=>ld ((⟨a,0,none⟩:Addr).add 0) (xI .i64 λd=>ld ((⟨a,0,none⟩:Addr).add 1) (xI .i64 λe=>cw (1=1/\(1=1/\True)) (DQ [.i d,.i e] 2 (dj .i64 .and c 1) (xI .i64 λf=>K (.i f)))))
def rl(g:LV)(c:OA)(d h:Int)(j:BA)(K:VK):WK:=mk g λa=>br (c.isNone) (K (.i 2)) (tick (aJ (⟨a,0,none⟩:Addr) 5 λk=>aJ (⟨a,0,none⟩:Addr) 5 λe=>ld ((⟨a,0,none⟩:Addr).add 2) (xI .i64 λb=>pA k d (xI .i64 λl=>kp ((⟨a,0,none⟩:Addr).add 2) [.i b] (kp (⟨a,0,none⟩:Addr) e (pA e d (xI .i64 λm=>kp ((⟨a,0,none⟩:Addr).add 2) [.i b] (lZ c l (aa.wrap (m+b)) h j (xI .i64 λf=>kp ((⟨a,0,none⟩:Addr).add 2) [.i b] (br (f !=0) (K (.i f)) (l7 c (xI .i64 λn=>K (.i n)))))))))))))
def rq(g:LV)(d:OA)(e h j:Int)(K:VK):WK:=mk g λa=>br (d.isNone) (K (.tuple ⟨[.s .empty,.b false]⟩)) (tick (aJ (⟨a,0,none⟩:Addr) 5 λk=>aJ (⟨a,0,none⟩:Addr) 5 λf=>ld ((⟨a,0,none⟩:Addr).add 2) (xI .i64 λc=>pA k e (xI .i64 λl=>kp ((⟨a,0,none⟩:Addr).add 2) [.i c] (kp (⟨a,0,none⟩:Addr) f (pA f e (xI .i64 λm=>kp ((⟨a,0,none⟩:Addr).add 2) [.i c] (jc d l (aa.wrap (m+c)) h j (x2 λn o=>(xS λp=>(xB λq=>kp ((⟨a,0,none⟩:Addr).add 2) [.i c] (K (.tuple ⟨[.s p,.b q]⟩))) o) n)))))))))
def qB(e:LV)(a:Int)(K:VK):WK:=mk e λc=>tick (br (decide (a>=0)) (ld ((⟨c,0,none⟩:Addr).add 2) (xI .i64 λd=>mS a (xI .i64 λf=>kp ((⟨c,0,none⟩:Addr).add 2) [.i d] (K (.b (decide (f<=d))))))) (K (.b false)))
def vJ(c:LV)(K:VK):WK:=mk c λa=>ld ((⟨a,0,none⟩:Addr).add 0) (xI .i64 λd=>br (decide (d>=1)) (ld ((⟨a,0,none⟩:Addr).add 0) (xI .i64 λe=>br (decide (e<=1152921504606846976)) (ld ((⟨a,0,none⟩:Addr).add 1) (xI .i64 λf=>br (decide (f>=1)) (ld ((⟨a,0,none⟩:Addr).add 1) (xI .i64 λg=>br (decide (g<=1152921504606846976)) (ld ((⟨a,0,none⟩:Addr).add 2) (xI .i64 λh=>br (decide (h>=0)) (ld ((⟨a,0,none⟩:Addr).add 2) (xI .i64 λi=>br (decide (i<=425984)) (ld ((⟨a,0,none⟩:Addr).add 3) (xI .i64 λj=>br (decide (j>=0)) (ld ((⟨a,0,none⟩:Addr).add 3) (xI .i64 λk=>K (.b (decide (k<=1152921504606846976))))) (K (.b false)))) (K (.b false)))) (K (.b false)))) (K (.b false)))) (K (.b false)))) (K (.b false)))) (K (.b false)))
def wy(m:LV)(K:VK):WK:=mk m λc=>aJ (⟨c,0,none⟩:Addr) 4 λn=>vJ n (xB λo=>br (!o) (K (.tuple ⟨[.s .empty,.i 1]⟩)) (cw True (mk [.l none 0 0] λq=>ld ((⟨c,0,none⟩:Addr).add 0) (xI .i64 λr=>ld ((⟨c,0,none⟩:Addr).add 1) (xI .i64 λt=>ld ((⟨c,0,none⟩:Addr).add 2) (xI .i64 λu=>ld ((⟨c,0,none⟩:Addr).add 3) (xI .i64 λv=>cw (1=1/\(1=1/\(1=1/\(1=1/\True)))) ((λw=>∃(g:LV->World->Prop)(j:LV->World->Nat),g [.s .empty,.i 0,.p (some (⟨q,0,none⟩:Addr)),.agg ⟨[.i r,.i t,.i u,.i v]⟩,.i 0] w/\∀(e:BA)(f:Int)(a:Addr)(d:LV)(b:Int)(h:World),g [.s e,.i f,.p (some a),.agg ⟨d⟩,.i b] h->(br (decide (b<4)) (DQ d 4 b (xI .i64 λx=>bt (some a) 8 x (x0 ((λk=>g [.s e,.i f,.p (some a),.agg ⟨d⟩,.i (aa.wrap (b+1))] k/\j [.s e,.i f,.p (some a),.agg ⟨d⟩,.i (aa.wrap (b+1))] k<j [.s e,.i f,.p (some a),.agg ⟨d⟩,.i b] h))))) (dN (some a) (xS λy=>K (.tuple ⟨[.s y,.i 0]⟩)))) h)))))))))
def vc(a:OA)(e:Int)(f:LV)(K:VK):WK:=mk f λb=>aJ (⟨b,0,none⟩:Addr) 4 λg=>wy g (x2 λh j=>(xS λk=>(xI .i64 λc=>br (a.isNone) (K (.i 2)) (br (c !=0) (K (.i c)) (ld ((⟨b,0,none⟩:Addr).add 0) (xI .i64 λl=>ld ((⟨b,0,none⟩:Addr).add 0) (xI .i64 λm=>lZ a (dj .i64 .and l 1) (aa.wrap ((dj .i64 .and m 1)+1)) e k (xI .i64 λd=>br (d !=0) (K (.i d)) (l7 a (xI .i64 λn=>K (.i n))))))))) j) h)
def kE(a:OA)(K:VK):WK:=br (!(a.isNone)) (nn a λc=>ld (c.add 1) (xB λd=>br (!d) (nn a λe=>ld (e.add 0) (xS λf=>K (.b (nG f (⟨#[]⟩:BA))))) (K (.b false)))) (K (.b false))
def yy(f:BA)(K:VK):WK:=mk [.i 0,.i 0,.i 0,.i 0] λa=>oO f (xP λc=>aM c 8 (xI .i64 λg=>aM c 8 (xI .i64 λh=>aM c 8 (xI .i64 λj=>aM c 8 (xI .i64 λk=>cw (1=1/\(1=1/\(1=1/\(1=1/\True)))) (mk [.i 0,.i 0,.i 0,.i 0] λd=>cw (4=4) (jY (⟨d,0,none⟩:Addr) [.i g,.i h,.i j,.i k] (kE c (xB λl=>br (!l) (cw True (cw (4=4) (jY (⟨a,0,none⟩:Addr) [.i 0,.i 0,.i 0,.i 0] (aJ (⟨a,0,none⟩:Addr) 4 λm=>K (.tuple ⟨[.agg ⟨m⟩,.b false]⟩))))) (aJ (⟨d,0,none⟩:Addr) 4 λn=>vJ n (xB λo=>br (!o) (cw True (cw (4=4) (jY (⟨a,0,none⟩:Addr) [.i 0,.i 0,.i 0,.i 0] (aJ (⟨a,0,none⟩:Addr) 4 λp=>K (.tuple ⟨[.agg ⟨p⟩,.b false]⟩))))) (aJ (⟨d,0,none⟩:Addr) 4 λe=>cw (e.length=4) (jY (⟨a,0,none⟩:Addr) e (aJ (⟨a,0,none⟩:Addr) 4 λq=>K (.tuple ⟨[.agg ⟨q⟩,.b true]⟩)))))))))))))))
def pV.j1(K:VK)(a f:Nat)(g:Int)(h:Bool):WK:=br h (cw True (cw (4=4) (jY (⟨a,0,none⟩:Addr) [.i 0,.i 0,.i 0,.i 0] (aJ (⟨a,0,none⟩:Addr) 4 λj=>K (.tuple ⟨[.agg ⟨j⟩,.b false]⟩))))) (ld ((⟨f,0,none⟩:Addr).add 2) (xS λk=>yy k (x2 λl m=>(xA 4 λd=>(xB λn=>mk [.i 0,.i 0,.i 0,.i 0] λc=>cw (d.length=4) (jY (⟨c,0,none⟩:Addr) d (br (!n) (cw True (cw (4=4) (jY (⟨a,0,none⟩:Addr) [.i 0,.i 0,.i 0,.i 0] (aJ (⟨a,0,none⟩:Addr) 4 λo=>K (.tuple ⟨[.agg ⟨o⟩,.b false]⟩))))) (ld ((⟨c,0,none⟩:Addr).add 0) (xI .i64 λp=>br ((dj .i64 .and p 1)!=g) (cw True (cw (4=4) (jY (⟨a,0,none⟩:Addr) [.i 0,.i 0,.i 0,.i 0] (aJ (⟨a,0,none⟩:Addr) 4 λq=>K (.tuple ⟨[.agg ⟨q⟩,.b false]⟩))))) (aJ (⟨c,0,none⟩:Addr) 4 λe=>cw (e.length=4) (jY (⟨a,0,none⟩:Addr) e (aJ (⟨a,0,none⟩:Addr) 4 λr=>K (.tuple ⟨[.agg ⟨r⟩,.b true]⟩))))))))) m) l)))
def pV(e:OA)(b:Int)(K:VK):WK:=mk [.i 0,.i 0,.i 0,.i 0] λc=>ko e b (x2 λf g=>(xS λh=>(xI .i64 λj=>mn h (x2 λk l=>(xA 3 λd=>(xB λm=>mk [.i 0,.i 0,.s .empty] λa=>cw (d.length=3) (jY (⟨a,0,none⟩:Addr) d (br (j !=0) (pV.j1 K c a b true) (br (!m) (pV.j1 K c a b true) (ld ((⟨a,0,none⟩:Addr).add 1) (xI .i64 λn=>pV.j1 K c a b (n !=0))))))) l) k)) g) f)
def sO(f:OA)(K:VK):WK:=mk [.i 0,.i 0,.i 0,.i 0] λa=>pV f 0 (x2 λn o=>(xA 4 λg=>(xB λe=>mk [.i 0,.i 0,.i 0,.i 0] λc=>cw (g.length=4) (jY (⟨c,0,none⟩:Addr) g (pV f 1 (x2 λp q=>(xA 4 λh=>(xB λr=>mk [.i 0,.i 0,.i 0,.i 0] λd=>cw (h.length=4) (jY (⟨d,0,none⟩:Addr) h (br r (br (!e) (aJ (⟨d,0,none⟩:Addr) 4 λj=>cw (j.length=4) (jY (⟨a,0,none⟩:Addr) j (aJ (⟨a,0,none⟩:Addr) 4 λs=>K (.tuple ⟨[.agg ⟨s⟩,.b true]⟩)))) (ld ((⟨d,0,none⟩:Addr).add 0) (xI .i64 λt=>ld ((⟨c,0,none⟩:Addr).add 0) (xI .i64 λu=>br (decide (t>u)) (aJ (⟨d,0,none⟩:Addr) 4 λk=>cw (k.length=4) (jY (⟨a,0,none⟩:Addr) k (aJ (⟨a,0,none⟩:Addr) 4 λv=>K (.tuple ⟨[.agg ⟨v⟩,.b true]⟩)))) (aJ (⟨c,0,none⟩:Addr) 4 λl=>cw (l.length=4) (jY (⟨a,0,none⟩:Addr) l (aJ (⟨a,0,none⟩:Addr) 4 λw=>K (.tuple ⟨[.agg ⟨w⟩,.b e]⟩)))))))) (aJ (⟨c,0,none⟩:Addr) 4 λm=>cw (m.length=4) (jY (⟨a,0,none⟩:Addr) m (aJ (⟨a,0,none⟩:Addr) 4 λx=>K (.tuple ⟨[.agg ⟨x⟩,.b e]⟩))))))) q) p)))) o) n)
def sF(d:OA)(a c:Int)(K:VK):WK:=br (decide (a>=0)) (br (decide (a<c)) (fH d (xI .i64 λe=>K (.b (decide (c<=e))))) (K (.b false))) (K (.b false))
def cK(a:OA)(K:VK):WK:=br (!(a.isNone)) (nn a λc=>ld (c.add 1) (xB λd=>K (.b d))) (K (.b false))
def cK.u:WP|[.pointer a],K=>cK a K|_,_=>no
def fY.j2(K:VK)(d:Nat)(e:OA)(a f c:Int)(g:Bool):WK:=br g (K (.tuple ⟨[.s .empty,.i 0,.b false]⟩)) (ld ((⟨d,0,none⟩:Addr).add 0) (xI .i64 λh=>jc e a f h (aa.wrap (12+c)) (x2 λj k=>(xS λl=>(xB λm=>br (!m) (K (.tuple ⟨[.s .empty,.i 0,.b false]⟩)) (tick (mT l (some 12) none λn=>mS (aa.wrap (12+c)) (xI .i64 λo=>K (.tuple ⟨[.s n,.i (aa.wrap (a+o)),.b true]⟩))))) k) j)))
def fY.j1(K:VK)(c:OA)(d:Nat)(e:OA)(f g:Int)(h:Bool):WK:=br h (K (.tuple ⟨[.s .empty,.i 0,.b false]⟩)) (aM c 4 (xI .i64 λa=>cK c (xB λj=>br j (fY.j2 K d e f g a true) (fY.j2 K d e f g a (decide (a>32768))))))
def fY(d:OA)(c e h:Int)(K:VK):WK:=br (decide (c>=e)) (K (.tuple ⟨[.s .empty,.i 0,.b false]⟩)) (ko d c (x2 λj k=>(xS λl=>(xI .i64 λt=>mn l (x2 λm n=>(xA 3 λg=>(xB λo=>mk [.i 0,.i 0,.s .empty] λa=>cw (g.length=3) (jY (⟨a,0,none⟩:Addr) g (ld ((⟨a,0,none⟩:Addr).add 2) (xS λp=>oO p (xP λf=>aM f 8 (xI .i64 λq=>br (!o) (fY.j1 K f a d c e true) (ld ((⟨a,0,none⟩:Addr).add 1) (xI .i64 λr=>br (r !=0) (fY.j1 K f a d c e true) (fY.j1 K f a d c e (q !=h)))))))))) n) m)) k) j))
def lv.j1(K:VK)(o:OA)(q r z:Int)(A:Bool):WK:=br A (K (.tuple ⟨[.p none,.l none 0 0,.i 1]⟩)) (cw (1=1/\(1=1/\(1=1/\(1=1/\(1=1/\True))))) (mk [.p o,.i q,.i r,.i q,.i z,.b false] λB=>(λC=>∃(m:LV->World->Prop)(t:LV->World->Nat),m [.p none,.l none 0 0,.i 0,.p (some (⟨B,0,none⟩:Addr)),.l none 0 0] C/\∀(c:OA)(d:OA)(e:Nat)(f:Nat)(g:Int)(a:Addr)(h:OA)(j:Nat)(k:Nat)(n:World),m [.p c,.l d e f,.i g,.p (some a),.l h j k] n->(tick (ld (a.add 3) (xI .i64 λD=>ld (a.add 4) (xI .i64 λu=>fY o D r (aa.wrap (u+1)) (x3 λE F G=>(xS λH=>(xI .i64 λI=>(xB λJ=>kp (a.add 4) [.i u] (br (!J) (K (.tuple ⟨[.p (some a),.l h j k,.i 0]⟩)) (cw (1=1/\True) (mk [.s H] λM=>iP 1 16 [.s .empty] h j k (ah M) 1 λv w x=>ld (a.add 4) (xI .i64 λO=>st (a.add 3) (.i I) (st (a.add 4) (.i (aa.wrap (O+1))) ((λy=>m [.p c,.l d e f,.i g,.p (some a),.l v w x] y/\t [.p c,.l d e f,.i g,.p (some a),.l v w x] y<t [.p c,.l d e f,.i g,.p (some a),.l h j k] n)))))))) G) F) E))))) n)))
def lv(a:OA)(c d b:Int)(K:VK):WK:=br (a.isNone) (K (.tuple ⟨[.p none,.l none 0 0,.i 2]⟩)) (sF a c d (xB λe=>br (!e) (lv.j1 K a c d b true) (br (decide (b<0)) (lv.j1 K a c d b true) (lv.j1 K a c d b (decide (b>1152921504606846976))))))
def jQ(a:OA)(c:Int)(K:VK):WK:=tick (br (!(a.isNone)) (br (decide (c>=0)) (br (decide (c<=32768)) (nn a λd=>ld (d.add 2) (xI .i64 λe=>nn a λf=>ld (f.add 3) (xI .i64 λg=>mS (aa.wrap (12+c)) (xI .i64 λh=>kp (f.add 3) [.i g] (kp (d.add 2) [.i e] (K (.b (decide (h<=(aa.wrap (e-g))))))))))) (K (.b false))) (K (.b false))) (K (.b false)))
def tU(c:Int)(b:BA)(K:VK):WK:=cw True (mk [.l none 0 0] λa=>bt (some (⟨a,0,none⟩:Addr)) 8 c (x0 (bt (some (⟨a,0,none⟩:Addr)) 4 (b.size:Int) (x0 (ml (some (⟨a,0,none⟩:Addr)) b (x0 (dN (some (⟨a,0,none⟩:Addr)) (xS λd=>K (.s d)))))))))
def cx.j3(K:VK)(a:OA)(f:BA)(c:Int):WK:=br (c !=0) (nn a λg=>st (g.add 5) (.b true) (K (.i c))) (tick (nn a λd=>ld (d.add 3) (xI .i64 λe=>mS (aa.wrap (12+(f.size:Int))) (xI .i64 λh=>kp (d.add 3) [.i e] (nn a λj=>st (j.add 3) (.i (aa.wrap (e+h))) (nn a λk=>ld (k.add 4) (xI .i64 λl=>nn a λm=>st (m.add 4) (.i (aa.wrap (l+1))) (K (.i 0)))))))))
def cx.j2(K:VK)(a:OA)(b:BA)(m:Int)(n:Bool):WK:=br n (K (.i 6)) (tick (nn a λe=>ld (e.add 0) (xP λf=>nn a λg=>ld (g.add 3) (xI .i64 λh=>nn a λj=>ld (j.add 2) (xI .i64 λk=>nn a λc=>ld (c.add 4) (xI .i64 λd=>tU (aa.wrap (d+1)) b (xS λo=>kp (c.add 4) [.i d] (kp (j.add 2) [.i k] (kp (g.add 3) [.i h] (kp (e.add 0) [.p f] (lZ f h k m o (xI .i64 λl=>kp (c.add 4) [.i d] (br (l==0) (nn a λq=>ld (q.add 0) (xP λr=>l7 r (xI .i64 λs=>cx.j3 K a b s))) (cx.j3 K a b l))))))))))))))
def cx.j1(K:VK)(a:OA)(b:BA)(c:Int)(d:Bool):WK:=br d (K (.i 1)) (jQ a (b.size:Int) (xB λe=>br (!e) (cx.j2 K a b c true) (nn a λf=>ld (f.add 4) (xI .i64 λg=>cx.j2 K a b c (decide (g>=1152921504606846976))))))
def cx(a:OA)(b:Int)(c:BA)(K:VK):WK:=br (a.isNone) (K (.i 2)) (nn a λd=>ld (d.add 5) (xB λe=>br e (K (.i 9)) (br (decide (b<1)) (cx.j1 K a c b true) (cx.j1 K a c b (decide (b>1152921504606846976))))))
def kA(a:OA)(K:VK):WK:=br (a.isNone) (K (.i 0)) (nn a λb=>ld (b.add 4) (xI .i64 λc=>K (.i c)))
def jR(a:OA)(K:VK):WK:=br (!(a.isNone)) (nn a λb=>ld (b.add 1) (xI .i64 λc=>nn a λd=>st (d.add 3) (.i c) (K (.tuple ⟨[]⟩)))) (K (.tuple ⟨[]⟩))
end Go.Prog
namespace Go.Prog.N
abbrev om:Nat:=48
abbrev fP:Nat:=253
abbrev fp:Nat:=280
abbrev eP:Nat:=310
abbrev eO:Nat:=312
abbrev fO:Nat:=252
abbrev eL:Nat:=258
abbrev eJ:Nat:=218
abbrev eH:Nat:=305
abbrev gW:Nat:=163
abbrev mz:Nat:=164
abbrev gB:Nat:=166
abbrev jJ:Nat:=206
abbrev zF:Nat:=2
abbrev ux:Nat:=0
abbrev oI:Nat:=167
abbrev Oq:Nat:=219
abbrev fR:Nat:=297
abbrev aM:Nat:=46
abbrev cX:Nat:=51
abbrev cK:Nat:=99
abbrev cJ:Nat:=239
abbrev cI:Nat:=316
abbrev da:Nat:=241
abbrev c9:Nat:=318
abbrev m9:Nat:=50
end Go.Prog.N
