/- Part of the proof: see the last text. -/
import Derived.Test.YtibneekkkdnmgaaGreatDoorPA
import Derived.RangeFuncRecord
import Derived.RangeFuncCalls
import Derived.OrdersIn
import Derived.TacticsIn
import Derived.RangeFuncOwn
import Derived.Test.YtibneekkkdnmgaaGreatDoorPC
import Derived.Test.YtibneekkkdnmgaaGreatDoorProg
import Derived.Test.YtibneekkkdnmgaaGreatDoorPD
import Derived.Test.YtibneekkkdnmgaaGreatDoorPB
import Derived.Test.YtibneekkkdnmgaaGreatDoorPE
import Derived.Laws.Externs
import Derived.Shelf.Strings.Builder2
import Derived.Shelf.Strings.Repeat
import Derived.Test.YtibneekkkdnmgaaGreatDoorRows
import Derived.ChangeSame
import Derived.MakeChecks
import Derived.LaidMore
set_option linter.all false
set_option maxRecDepth 100000
set_option synthInstance.maxSize 100000
open Array renaming replicate→jt
open Bool renaming false_ne_true→cG
open Go.IntKind renaming i64→aa
open Int renaming eq_ofNat_of_zero_le→bm
open List renaming getElem?_eq_some_iff→aw,take_of_length_le→bM,cons_append→kV,range→pr,getElem?_take→rV,getElem?_drop→rW,nil_append→de,Perm→bU,map_cons→cN,map_nil→ud
open Nat renaming zero_add→aC,le_refl→aG,eq_of_beq_eq_true→eH,beq→ig,sub_self→lu,lt_of_le_of_lt→F2,le_trans→y9,le_of_ble_eq_true→aJ
open Option renaming some→bE
namespace Go.Den
def B9(FF:Fence):Prop:=FF=Fence.wide\/∃l,FF=Fence.wide.inRound l
def B9.fn{FF:Fence}(h:B9 FF)(f:FuncId):FF.fn f:=by rcases h with rfl|⟨l,rfl⟩<;>exact trivial
def B9.depth{FF:Fence}(h:B9 FF):FF.depth=none:=by rcases h with rfl|⟨l,rfl⟩<;>rfl
def B9.calls{FF:Fence}(h:B9 FF){n:Nat}{P:Program}{f:FuncId}{args:Array Value}{w:World}{R:Ending->World->Prop}(hc:Calls P f args w R):CallsIn FF n P f args w R:=by
 rcases h with rfl|⟨l,rfl⟩
 ·exact callsIn_wide.2 hc
 ·exact CallsIn.inRound l (callsIn_wide.2 hc)
def S3(F:Fn)(ds:List Deferred)(e:Env)(a:Act):Prop:=S2 F e {a with defers:=[]}/\a.defers=ds
def QI(F:Fn)(ds:List Deferred)(Q:Exit->Env->WK):Exit->Act->World->Prop:=λex a w=>(∃e,S3 F ds e a/\Q ex e w)/\∀c,ex≠.panic c
def S3.get{F:Fn}{ds:List Deferred}{e:Env}{a:Act}(h:S3 F ds e a){t:Nat}{v:Value}(hl:lk e t=some v):a.tmps[t]?=some v:=h.1.1.get t v hl
def S3.eval{F:Fn}{ds:List Deferred}{e:Env}{a:Act}(h:S3 F ds e a){x:Operand}{v:Value}(hx:ev e x=some v):a.eval x=v:=h.1.1.eval hx
def S3.nil{F:Fn}{ds:List Deferred}{e:Env}{a:Act}(h:S3 F ds e a):S3 F ds [] a:=⟨⟨⟨h.1.1.size,rfl,λt v hl=>by simp[lk] at hl⟩,h.1.2⟩,h.2⟩
def S3.cons{F:Fn}{ds:List Deferred}{e:Env}{a:Act}{t:Nat}{v:Value}(hv:a.tmps[t]?=some v)(h:S3 F ds e a):S3 F ds ((t,v)::e) a:=
 ⟨⟨⟨h.1.1.size,rfl,λs u hl=>by
   rw[wX] at hl
   split at hl
   ·rename_i MN;subst MN;cases hl;exact hv
   ·exact h.1.1.get s u hl⟩,h.1.2⟩,h.2⟩
def S3.start{F:Fn}{a:Act}(hC:F.C=[])(hn:a.tmps.size=F.n):S3 F a.defers [] a:=
 ⟨⟨⟨hn,rfl,λt v hl=>by simp[lk] at hl⟩,⟨hn,rfl,λt v hl=>by rw[hC] at hl;simp[lk] at hl⟩⟩,rfl⟩
def Sm{F:Fn}{ds:List Deferred}{w:World}{e:Env}{a:Act}{d:Option Tmp}{v:Value}{K:Env->WK}(hs:S3 F ds e a)(h:pt F.n F.C e d v K w):∃e',S3 F ds e' (a.put d v)/\K e' w:=by
 obtain⟨e',h1,h2⟩:=uF (a:={a with defers:=[]}) hs.1 h;refine⟨e',⟨?_,?_⟩,h2⟩
 ·cases d<;>exact h1
 ·cases d<;>exact hs.2
def S3.put{F:Fn}{ds:List Deferred}{e:Env}{a:Act}{t:Tmp}{v:Value}(w:World)(hs:S3 F ds e a)(ht:(Nat.blt t F.n&&cover F.C t)=true):S3 F ds ((t,v)::e) (a.put (some t) v):=by
 obtain⟨e',h1,h2⟩:=Sm (d:=some t) (v:=v) (K:=λe' _=>e'=(t,v)::e) (w:=w) hs (by simp only[pt,ht,cond_true]);subst h2;exact h1
def Tg{F:Fn}{ds:List Deferred}{w:World}{e:Env}{a:Act}{ops:Array Oper}{o:Oper}{run skip:Env->WK}{X:Prop}(hs:S3 F ds e a)(h:guarded ops o e run skip w)
 (hr:∀e',S3 F ds e' a->Region.wanted o (yielded ops a.tmps)=true->run e' w->X)
 (hk:∀e',S3 F ds e' a->Region.wanted o (yielded ops a.tmps)=false->skip e' w->X):X:=
 sR (a:={a with defers:=[]}) hs.1 h (λe' h1=>hr e' ⟨h1,hs.2⟩) (λe' h1=>hk e' ⟨h1,hs.2⟩)
def S3.zip{F:Fn}{ds:List Deferred}{e:Env}{a:Act}(hs:S3 F ds e a){l:List (Nat×Value)}{vs:LV}(h:vU e l=some vs):S3 F ds (An l vs F.C) a:=⟨S2.zip (a:={a with defers:=[]}) hs.1 h,hs.2⟩
section
variable {F:Fn} {ds:List Deferred} {P:Program} {w:World} {e:Env} {a:Act} {ops:Array Oper} {FF:Fence} {n:Nat}
def To.VO{o:Oper}{K:VK}(h:To P (execOp a.eval o) w K):∀c,o.op≠.defer c:=by
 intro c hc;have key:∀r,(execOp a.eval o).run P w=.ok r w->True:=λ_ _=>trivial;have hx:execOp a.eval o=(do pure (.defer (<-resolve a.eval c o.type))):=by simp only[execOp,hc]
 rw[hx] at h;unfold To at h;simp only[Sem.run_bind] at h;cases hr:(resolve a.eval c o.type).run P w with
 |ok d w1=>simp[hr,Result.andThen,Sem.run_pure] at h
 |halt x w1=>simp[hr,Result.andThen] at h
def L6(hW:B9 FF){o:Oper}{K:VK}{next:Act->World->Prop}{Q:Exit->Act->World->Prop}(h:To P (execOp a.eval o) w K)(hk:∀v w',K v w'->next (a.put o.dst v) w'):o.wpIn FF n P a w next Q:=by
 refine⟨λf _=>hW.fn f,?_⟩;rw[Oper.semAt_eq _ _ _ h.VO];rcases h with⟨v,w',hr,h⟩|⟨w',hr,h⟩|⟨g,args,w',hr,h⟩
 ·rw[hr];exact hk _ _ h
 ·rw[hr];exact hk _ _ h
 ·rw[hr];refine⟨λhd=>(by rw[hW.depth] at hd;cases hd),?_⟩;refine CallsIn.mono (hW.calls h) λe w'' ⟨v,he,hv⟩=>?_;subst he;exact hk _ _ hv
def By(hW:B9 FF)(hF:Ok F){Q:Exit->Act->World->Prop}{K:Env->WK}{tail:List Nat}(hK:∀e a w,S3 F ds e a->K e w->wpOpsIn FF n F.P ops Q tail a w):
 ∀(l:List Nat)(os:List Oper)(e:Env)(a:Act)(w:World),l.length=os.length->(∀k i:Nat,l[k]?=some i->ops[i]?=os[k]?)->S3 F ds e a->yn F ops os K e w->wpOpsIn FF n F.P ops Q (l++tail) a w
 |[],[],e,a,w,_,_,hs,h=>hK e a w hs h
 |[],_::_,_,_,_,hl,_,_,_=>by simp at hl
 |_::_,[],_,_,_,hl,_,_,_=>by simp at hl
 |i::l,o::os,e,a,w,hl,hi,hs,h=>by
  have hio:ops[i]?=some o:=hi 0 i rfl;have rest:=λe a w=>By hW hF hK l os e a w (by simpa using hl) (λ(k j:Nat)(hk:l[k]?=some j)=>hi (k+1) j (by simpa using hk));rw[kV,wpOpsIn_cons];unfold wpOpIn;simp only[hio];refine Tg (F:=F) hs (zl h) (λe' ft hw hr=>?_) (λe' ft hw hr=>?_)
  ·rw[ai hw];refine L6 (a:=a) hW (EI (a:={a with defers:=[]}) hF.eqs hF.GM ft.1.1 hr) λv w' hv=>?_;obtain⟨Tu,xX,hk⟩:=Sm ft hv;exact rest _ _ _ xX hk
  ·rw[ag (by rw[hw];exact cG)];refine⟨λf _=>hW.fn f,?_⟩;obtain⟨Tu,xX,hk⟩:=Sm ft hr;exact rest _ _ _ xX hk
def GY(hW:B9 FF)(hF:Ok F){id:Nat}{Q:Exit->Act->World->Prop}{K:Env->WK}(k:Nat)(hk:k<=ops.size)(hs:S3 F ds e a)
 (h:yn F ops (ops.toList.take k) K e w)(hK:∀e a w,S3 F ds e a->K e w->wpOpsIn FF n F.P ops Q (List.range' k (ops.size-k)) a w):(Code.region id ops false).wpIn FF n F.P Q a w:=by
 refine wpIn_region ?_;have e1:pr ops.size=List.range' 0 k++List.range' k (ops.size-k):=by
  rw[List.range_eq_range'];have:=List.range'_append_1 (s:=0) (m:=k) (n:=ops.size-k);rw[aC] at this;rw[this];congr 1;omega
 rw[e1];refine By hW hF hK _ (ops.toList.take k) e a w (by simp;omega) (λj i hj=>?_) hs h;have LU:j<k:=by have:=(aw.1 hj).1;simpa using this
 rw[List.getElem?_range'] at hj
 ·cases hj
  rw[rV,ai LU];simp
 ·exact LU
def U4(hW:B9 FF)(hF:Ok F){Q:Exit->Act->World->Prop}{K:Env->WK}(k:Nat)(hk:k<=ops.size)(hs:S3 F ds e a)
 (h:yn F ops (ops.toList.drop k) K e w)(hK:∀e a w,S3 F ds e a->K e w->Q .normal a w):wpOpsIn FF n F.P ops Q (List.range' k (ops.size-k)) a w:=by
 have:=By (FF:=FF) (n:=n) (Q:=Q) (tail:=[]) hW hF (λe a w hs hk=>hK e a w hs hk) (List.range' k (ops.size-k)) (ops.toList.drop k) e a w (by simp) (λj i hj=>?_) hs h
 ·simpa using this
 ·have LU:j<ops.size-k:=by have:=(aw.1 hj).1;simpa using this
  rw[List.getElem?_range'] at hj
  ·cases hj
   rw[rW];simp
  ·exact LU
def drawn:Code->Bool
 | .region _ _ d=>d
 | .seq x y=>drawn x||drawn y
 | .cond _ x y=>drawn x||drawn y
 | .block _ c=>drawn c
 | .loop c=>drawn c
 |_=>false
def aaE(hW:B9 FF)(hF:Ok F):∀(c:Code)(Q:Exit->Env->WK)(e:Env)(a:Act)(w:World),drawn c=false->S3 F ds e a->den F c Q e w->c.wpIn FF n F.P (QI F ds Q) a w:=by
 intro c
 induction c with
 |skip=>intro Q e a w _ hs h;exact wpIn_skip ⟨⟨e,hs,h⟩,by simp⟩
 |ret=>intro Q e a w _ hs h;exact wpIn_ret ⟨⟨e,hs,h⟩,by simp⟩
 |exit i=>intro Q e a w _ hs h;exact wpIn_exit ⟨⟨e,hs,h⟩,by simp⟩
 |seq x y ihx ihy=>
  intro Q e a w hd hs h;simp only[drawn,Bool.or_eq_false_iff] at hd;refine wpIn_seq (wpIn_mono (ihx _ e a w hd.1 hs h) ?_);rintro ex a' w' ⟨⟨e',ft,hq⟩,hp⟩;cases ex<;>simp only[Px] at hq
  case normal=>exact ihy Q e' a' w' hd.2 ft hq
  all_goals exact⟨⟨e',ft,hq⟩,hp⟩
 |cond x c1 c2 ih1 Uz=>
  intro Q e a w hd hs h;simp only[drawn,Bool.or_eq_false_iff] at hd;simp only[den] at h;cases hx:ev e x with
  |none=>simp only[hx,no] at h
  |some v=>
   cases v<;>simp only[hx,no] at h
   rename_i b;cases b with
   |true=>exact wpIn_cond_true (hs.eval hx) (ih1 Q e a w hd.1 hs h)
   |false=>exact wpIn_cond_false (hs.eval hx) (Uz Q e a w hd.2 hs h)
 |block i c ih=>
  intro Q e a w hd hs h;refine wpIn_block (wpIn_mono (ih _ e a w hd hs h) ?_);rintro ex a' w' ⟨⟨e',ft,hq⟩,hp⟩;cases ex<;>simp only[Nj] at hq
  case exit j=>
   simp only[Exit.inBlock];cases hb:ig j i with
   |true=>rw[ai (eH hb)];simp only[hb,cond_true] at hq;exact⟨⟨e',ft,hq⟩,by simp⟩
   |false=>
    have kd:j≠i:=λh=>by simp[h] at hb
    rw[ag kd];simp only[hb,cond_false] at hq;exact⟨⟨e',ft,hq⟩,by simp⟩
  all_goals exact⟨⟨e',ft,hq⟩,hp⟩
 |loop c ih=>
  intro Q e a w hd hs h;simp only[den] at h;cases hl:Pb F.I4 (key c) with
  |none=>simp only[hl,no] at h
  |some l=>
   simp only[hl] at h;cases hv:vU e l with
   |none=>simp only[hv,no] at h
   |some vs=>
    simp only[hv] at h;obtain⟨I,μ,h0,MP⟩:=h;have SQ:=(nC hs.1.1 hv).2.1;refine wpIn_loop (λa w=>S3 F ds (An l (l.map λp=>a.tmps.getD p.1 undef) F.C) a/\I (l.map λp=>a.tmps.getD p.1 undef) w/\∀f,FD (l.map (·.2)) f->f (l.map λp=>a.tmps.getD p.1 undef))
     (λa w=>μ (l.map λp=>a.tmps.getD p.1 undef) w) ?_ ?_
    ·rw[<-SQ];exact⟨hs.zip hv,h0,(nC hs.1.1 hv).2.2⟩
    ·intro a1 w1 ⟨Ak,hI1,gh⟩;have hr:=gh _ MP w1 hI1;refine wpIn_mono (ih _ _ a1 w1 hd Ak hr) ?_;rintro ex a' w' ⟨⟨e',ft,hq⟩,hp⟩;cases ex<;>simp only[Px] at hq
     case normal=>
      simp only[SI] at hq;cases Cz:vU e' l with
      |none=>simp only[Cz,no] at hq
      |some F5=>
       simp only[Cz] at hq;have MR:=(nC ft.1.1 Cz).2.1;simp only[Exit.then];rw[<-MR];exact⟨⟨ft.zip Cz,hq.1,(nC ft.1.1 Cz).2.2⟩,hq.2⟩
     all_goals exact⟨⟨e',ft,hq⟩,hp⟩
 |region id ops draw=>
  intro Q e a w hd hs h;simp only[drawn] at hd;subst hd;simp only[den,cond_false] at h;refine GY hW hF ops.size (aG _) (K:=λe w=>Q .normal e w) hs (by rw[bM (by simp)];exact h) (λe a w hs hk=>?_);rw[lu];exact⟨⟨e,hs,hk⟩,by simp⟩
 |_=>intro Q e a w _ hs h;exact h.elim
def Df(hW:B9 FF)(hF:Ok F){c:Code}{Q:Exit->Act->World->Prop}(hd:drawn c=false)(hs:S3 F ds e a)
 (h:den F c (λex e w=>∀a,S3 F ds e a->Q ex a w) e w):c.wpIn FF n F.P Q a w:=
 wpIn_mono (aaE hW hF c _ e a w hd hs h) (by rintro ex a' w' ⟨⟨e',ft,hq⟩,-⟩;exact hq a' ft)
def zF(hW:B9 FF)(hF:Ok F){x y:Code}{Q:Exit->Act->World->Prop}(hd:drawn x=false)(hs:S3 F ds e a)
 (h:den F x (λex e w=>∀a,S3 F ds e a->Exit.then (y.wpIn FF n F.P Q) Q ex a w) e w):(x.seq y).wpIn FF n F.P Q a w:=
 wpIn_seq (Df hW hF hd hs h)
end
def E9:Code->Code| .seq x _=>x|c=>c
def xV:Code->Code| .seq _ y=>y|c=>c
def inC:Code->Code| .block _ c=>c| .loop c=>c|c=>c
def agP:Code->Code| .rangeFunc _ _ a _=>a|c=>c
def agL:Code->Code| .rangeFunc _ _ _ b=>b|c=>c
def EF:Code->Array Oper| .region _ ops _=>ops|_=>#[]
end Go.Den
namespace Go.Den
open Go.RowKit Go.Sep
section
variable {FF:Fence} {n:Nat} {P:Program} {a:Act} {w:World} {Q:Exit->Act->World->Prop}
def BR{J:Nat->Prop}(h:∃k,J k):∃m,J m/\∀k,J k->m<=k:=by
 obtain⟨k,hk⟩:=h
 induction k using Nat.strongRecOn with
 |_ k ih=>
  by_cases hx:∃j,j<k/\J j
  ·obtain⟨j,hj,hJ⟩:=hx;exact ih j hj hJ
  ·refine⟨k,hk,λj hJ=>?_⟩;rcases Nat.lt_or_ge j k with h|h
   ·exact aT ⟨j,h,hJ⟩ hx
   ·exact h
def Jt{c:Code}(J:Nat->Act->World->Prop)(h0:∃k,J k a w)
 (hr:∀k a w,J k a w->c.wpIn FF n P (Exit.then (λa' w'=>∃j,j<k/\J j a' w') Q) a w):(Code.loop c).wpIn FF n P Q a w:=by
 classical
 let μ:Act->World->Nat:=λa w=>if h:∃k,J k a w then Classical.choose (BR h) else 0
 have hμ:∀{a w}(h:∃k,J k a w),J (μ a w) a w/\∀k,J k a w->μ a w<=k:=λ{a w} h=>by
  have e:μ a w=Classical.choose (BR h):=dif_pos h;rw[e];exact Classical.choose_spec (BR h)
 refine wpIn_loop (λa w=>∃k,J k a w) μ h0 λa w h=>?_;refine wpIn_mono (hr _ a w (hμ h).1) λex a' w' hq=>?_;cases ex<;>first|exact hq|skip
 obtain⟨j,hj,hJ⟩:=hq;exact⟨⟨j,hJ⟩,F2 ((hμ ⟨j,hJ⟩).2 j hJ) hj⟩
def Gf{o:Oper}{x:Operand}{xs:Array Operand}{ts:Array TypeId}{l:Nat}(ho:o.op=.call {callee:=.value x,args:=xs,argTypes:=ts})(hx:a.eval x=.func (.yield l) #[] #[]):
 (execOp a.eval o).run P w=(Instr.yield l (xs.map a.eval)).run P w:=by
 simp only[execOp,ho,resolve,Deferred.ofValue,hx,Sem.run_bind,Sem.run_pure,Result.andThen_ok,invoke,Array.empty_append]
def Sd(hW:FF=Fence.wide){g:Operand}{ps:Array Tmp}{assign body:Code}{gf:Nat}{lb:Array Value}(hg:a.eval g=.func (.func gf) #[] lb)
 {fg:Func}(h1:P.funcs[gf]?=some fg)(h2:(fg.name== "runtime.NumGoroutine")=false)(h3:fg.body.isNone=false)
 (h:∀fn,CallsIn FF (n-1) P gf (#[.func (.yield (w.heap.size+1)) #[] #[]]++lb) ((w.alloc (.deferred (some []))).alloc (.loop {state:=.ready,pending:=none,fn,tmps:=a.tmps,params:=ps,assign,body,defers:=w.heap.size}))
  (rangePost FF n P (w.heap.size+1) Q {a with defers:={target:=.collected w.heap.size,args:=#[]}::a.defers})):(Code.rangeFunc g ps assign body).wpIn FF n P Q a w:=by
 subst hW;refine wpIn_rangeFunc ?_;intro fn hfn;obtain⟨W1,hW1⟩:∃W1,(w.alloc (.deferred (some []))).alloc (.loop {state:=.ready,pending:=none,fn:=fn,tmps:=a.tmps,params:=ps,assign:=assign,body:=body,defers:=w.heap.size})=W1:=⟨_,rfl⟩;have h:=h fn;rw[hW1] at h;refine⟨w.heap.size+1,[{target:=.collected w.heap.size,args:=#[]}],W1,{target:=.fn (.func gf) lb,args:=#[.func (.yield (w.heap.size+1)) #[] #[]]},W1,gf,
  #[.func (.yield (w.heap.size+1)) #[] #[]]++lb,W1,?_,?_,?_,?_,?_,?_⟩
 ·rw[<-hW1];exact run_enterLoop_outer _ _ _ _ _
 ·simp only[resolve,hg];simp[go_sem]
 ·intro f' hf';exact trivial
 ·simp only[invoke];exact AA h1 h2 h3 _
 ·intro hd;cases hd
 ·simpa only[kV,de] using h
end
end Go.Den
namespace Go.Sep
open Go.Den Go.RowKit
def Rs{w:World}{b:Nat}{o:Obj}(hb:b<w.heap.size)(ho:∀c t fz,o≠.cells c t fz):view (w.putObj b o) b=some (.obj o):=by
 unfold view;rw[World.putObj_heap_same hb];cases o<;>first|rfl|exact aT rfl (ho _ _ _)
def St.abJ{W w:World}{L:LH}(h:St W w L)(o:Obj)(ho:∀c t fz,o≠.cells c t fz):St W (w.alloc o) (ob w.heap.size o::L):=by
 refine h.abK o (x:=.obj o) ?_;unfold view;rw[World.alloc_heap_new];cases o<;>first|rfl|exact aT rfl (ho _ _ _)
def St.put{W w:World}{L:LH}{k b:Nat}{o:Obj}(o':Obj)(h:St W w L)(hk:L[k]?=some (ob b o))(ho:∀c t fz,o'≠.cells c t fz):St W (w.putObj b o') (L.set k (ob b o')):=by
 obtain⟨h1,h2⟩:=h.obj hk;have cf:b<w.heap.size:=(Array.getElem?_eq_some_iff.1 h1).1;refine h.XM hk ⟨h.1.os,h.1.tape,h.1.output,by rw[World.putObj_size];exact h.1.size,λj hj=>?_⟩ (Rs cf ho) λj hj _=>World.putObj_heap_other hj;rw[World.putObj_heap_other (by omega)];exact h.1.block j hj
end Go.Sep
namespace Go.Proofs.YtibneekkkdnmgaaGreatDoor
open Go.Den Go.Prog Go.RowKit
noncomputable def T82:F1:=[(182,eo.u),(183,tj.u),(184,dX.u)]
noncomputable abbrev Jj:Den.Fn:=⟨Tryz.prog,T82,[],20,[],[]⟩
noncomputable def c82:Code:=(Tryz.f134.body).getD .skip
noncomputable def q0:Code:=E9 c82
noncomputable def q1:Code:=E9 (xV c82)
noncomputable def q2:Code:=E9 (xV (xV c82))
noncomputable def q3:Code:=E9 (E9 (xV (xV (xV c82))))
noncomputable def rf:Code:=inC (xV (E9 (xV (xV (xV c82)))))
noncomputable def Pa:Code:=agP rf
noncomputable def bd:Code:=agL rf
noncomputable def q7:Code:=E9 (xV (xV (xV (xV c82))))
def aaJ:Tryz.f134.body=some (.seq q0 (.seq q1 (.seq q2 (.seq (.seq q3 (.block 0 (.rangeFunc (.tmp 11) #[12] Pa bd))) (.seq q7 .ret))))):=by kernel_rfl
def IV:drawn q0=false/\drawn q1=false/\drawn q2=false/\drawn q3=false/\drawn Pa=false/\drawn bd=false/\drawn q7=false:=⟨by kernel_rfl,by kernel_rfl,by kernel_rfl,by kernel_rfl,by kernel_rfl,by kernel_rfl,by kernel_rfl⟩
def n82:Tryz.f134.ntmps=20/\Tryz.f134.results=#[.tmp 4]:=⟨by kernel_rfl,by kernel_rfl⟩
def d0(Q:Exit->Env->WK)(p:OA)(n:Int):den Jj q0 Q [(1,.i n),(0,.pointer p)]=mk [.pointer p] (λr=>Q .normal [(4,.i 0),(2,.pointer (some (ad r 0))),(1,.i n),(0,.pointer p)]):=by kernel_rfl
def d1(Q:Exit->Env->WK)(r:Nat)(n:Int)(e:Env):den Jj q1 Q ((4,.i 0)::(2,.pointer (some (ad r 0)))::(1,.i n)::e)=
 ld (ad r 0) (xP λp=>eo p n (x0 (Q .normal ((9,.tuple ⟨[]⟩)::(8,.i n)::(7,.pointer p)::(4,.i 0)::(2,.pointer (some (ad r 0)))::(1,.i n)::e)))):=by kernel_rfl
def d2(Q:Exit->Env->WK)(e:Env):den Jj q2 Q e=mk [.i 0] (λr=>st (ad r 0) (.i 0) (Q .normal ((5,.pointer (some (ad r 0)))::e))):=by kernel_rfl
def d3(Q:Exit->Env->WK)(r5 r:Nat)(v9 v8 v7 v4:Value)(e:Env):den Jj q3 Q ((5,.pointer (some (ad r5 0)))::(9,v9)::(8,v8)::(7,v7)::(4,v4)::(2,.pointer (some (ad r 0)))::e)=
 ld (ad r 0) (xP λp=>tj p (λv=>Q .normal ((11,v)::(10,.pointer p)::(5,.pointer (some (ad r5 0)))::(9,v9)::(8,v8)::(7,v7)::(4,v4)::(2,.pointer (some (ad r 0)))::e))):=by kernel_rfl
def das(Q:Exit->Env->WK)(cs:LV)(e:Env):den Jj Pa Q ((12,.agg ⟨cs⟩)::e)=mk [.u 0,.u 0,.u 0,.u 0,.u 0,.u 0,.u 0,.u 0,.u 0,.u 0,.i 0,.i 0,.i 0,.i 0,.i 0,.i 0] (λr=>ch (cs.length=16) (jC (ad r 0) cs (Q .normal ((6,.pointer (some (ad r 0)))::(12,.agg ⟨cs⟩)::e)))):=by kernel_rfl
def dbd(Q:Exit->Env->WK)(r6 r5 r2:Nat)(cs:LV)(e:Env):den Jj bd Q ((6,.pointer (some (ad r6 0)))::(12,.agg ⟨cs⟩)::(5,.pointer (some (ad r5 0)))::(2,.pointer (some (ad r2 0)))::e)=
 ld (ad r2 0) (xP λp=>aI (ad r6 0) 16 (λFh=>ch True (dX p Fh [.u 0,.u 0] 4 (x0 (ld (ad r5 0) (xI .i64 λn=>st (ad r5 0) (.i (aa.wrap (n+1))) (Q .normal ((18,.i (aa.wrap (n+1)))::(17,.i n)::(16,.tuple ⟨[]⟩)::(15,.agg ⟨[.u 0,.u 0]⟩)::(14,.agg ⟨Fh⟩)::(13,.pointer p)::(6,.pointer (some (ad r6 0)))::(12,.agg ⟨cs⟩)::(5,.pointer (some (ad r5 0)))::(2,.pointer (some (ad r2 0)))::e)))))))):=by kernel_rfl
def d7(Q:Exit->Env->WK)(r5:Nat)(e:Env):den Jj q7 Q ((5,.pointer (some (ad r5 0)))::e)=ld (ad r5 0) (xI .i64 λn=>Q .normal ((4,.i n)::(19,.i n)::(5,.pointer (some (ad r5 0)))::e)):=by kernel_rfl
noncomputable def aaV:F1:=[(230,fh.u)]
noncomputable abbrev zh:Den.Fn:=⟨Tryz.prog,aaV,[],22,[],[]⟩
noncomputable def adw:Code:=(Tryz.f229.body).getD .skip
noncomputable def s0:Code:=E9 adw
noncomputable def lb:Code:=inC (inC (xV adw))
noncomputable def s1:Code:=E9 lb
noncomputable def s3:Code:=E9 (inC (E9 (xV lb)))
noncomputable def s4:Code:=xV (xV lb)
def Xa:Tryz.f229.body=some (.seq s0 (.block 0 (.loop (.seq s1 (.seq (.block 1 (.seq (.region 3 (EF s3) false) (.cond (.tmp 20) .ret .skip))) s4))))):=by kernel_rfl
def Fg:drawn s0=false/\drawn s1=false/\drawn s4=false:=⟨by kernel_rfl,by kernel_rfl,by kernel_rfl⟩
def n193:Tryz.f229.ntmps=22/\Tryz.f229.results=#[]:=⟨by kernel_rfl,by kernel_rfl⟩
def ds0(Q:Exit->Env->WK)(y:Value)(r1:Nat):den zh s0 Q [(1,.pointer (some (ad r1 0))),(0,y)]=
 ld (ad r1 0) (xP λp=>fh p (x2 λv1 v2=>(xA 33 λcs=>(xB λb=>mk [.u 0,.u 0,.u 0,.u 0,.u 0,.u 0,.u 0,.u 0,.u 0,.u 0,.i 0,.i 0,.i 0,.i 0,.i 0,.i 0,.u 0,.u 0,.u 0,.u 0,.u 0,.u 0,.u 0,.u 0,.u 0,.u 0,.i 0,.i 0,.i 0,.i 0,.i 0,.i 0,.i 0] (λr=>ch (cs.length=33) (jC (ad r 0) cs (Q .normal ((4,.bool b)::(3,.pointer (some (ad r 0)))::(9,.bool b)::(8,.agg ⟨cs⟩)::(5,.tuple ⟨[.agg ⟨cs⟩,.bool b]⟩)::(7,.tuple ⟨[.agg ⟨cs⟩,.bool b]⟩)::(6,.pointer p)::[(1,.pointer (some (ad r1 0))),(0,y)]))))) v2) v1)):=by kernel_rfl
def ds1(Q:Exit->Env->WK)(b:Bool)(e:Env):den zh s1 Q ((4,.bool b)::e)=br b (Q .normal ((10,.bool b)::(4,.bool b)::e)) (Q (.exit 0) ((10,.bool b)::(4,.bool b)::e)):=by kernel_rfl
def ds3(K:Env->WK)(r3 r1:Nat)(y:Value)(v4:Value):yn zh (EF s3) ((EF s3).toList.take 3) K ((4,v4)::(3,.pointer (some (ad r3 0)))::(1,.pointer (some (ad r1 0)))::[(0,y)])=
 aI (ad r3 16) 16 (λcs=>K ((18,.agg ⟨cs⟩)::(17,.pointer (some (ad r3 16)))::(16,y)::(4,v4)::(3,.pointer (some (ad r3 0)))::(1,.pointer (some (ad r1 0)))::[(0,y)])):=by kernel_rfl
noncomputable def o3:Oper:=((EF s3)[3]?).getD ⟨none,.move (.tmp 0),0,"",#[],none⟩
def M9:(EF s3)[3]?=some o3/\o3.dst=some 19/\o3.op=.call {callee:=.value (.tmp 16),args:=#[.tmp 18],argTypes:=#[52]}/\o3.guard=none/\(EF s3).size=5:=⟨by kernel_rfl,by kernel_rfl,by kernel_rfl,by kernel_rfl,by kernel_rfl⟩
def agF(K:Env->WK)(b:Bool)(e:Env):yn zh (EF s3) ((EF s3).toList.drop 4) K ((19,.bool b)::e)=K ((20,.bool (!b))::(19,.bool b)::e):=by kernel_rfl
def ds4(Q:Exit->Env->WK)(r3 r1:Nat)(y:Value):den zh s4 Q ((3,.pointer (some (ad r3 0)))::(1,.pointer (some (ad r1 0)))::[(0,y)])=
 aI (ad r3 0) 33 (λcs0=>mk [.u 0,.u 0,.u 0,.u 0,.u 0,.u 0,.u 0,.u 0,.u 0,.u 0,.i 0,.i 0,.i 0,.i 0,.i 0,.i 0,.u 0,.u 0,.u 0,.u 0,.u 0,.u 0,.u 0,.u 0,.u 0,.u 0,.i 0,.i 0,.i 0,.i 0,.i 0,.i 0,.i 0] (λr=>ch (cs0.length=33) (jC (ad r 0) cs0 (ld (ad r1 0) (xP λp=>fh p (x2 λv1 v2=>(xA 33 λcs=>(xB λb=>ch (cs.length=33) (jC (ad r 0) cs (Q .normal ((4,.bool b)::(15,.bool b)::(14,.agg ⟨cs⟩)::(11,.tuple ⟨[.agg ⟨cs⟩,.bool b]⟩)::(13,.tuple ⟨[.agg ⟨cs⟩,.bool b]⟩)::(12,.pointer p)::(3,.pointer (some (ad r 0)))::(21,.agg ⟨cs0⟩)::(3,.pointer (some (ad r3 0)))::(1,.pointer (some (ad r1 0)))::[(0,y)])))) v2) v1)))))):=by kernel_rfl
end Go.Proofs.YtibneekkkdnmgaaGreatDoor
namespace Go.Proofs.YtibneekkkdnmgaaGreatDoor
open Go.Sep Go.Den Go.RowKit Go.Prog Go.Md Go.cD Go.Up
section
variable {W:World} {L:LH} {a:Nat} {m0:aA}
def Mid(m0:aA)(b:Up.aY)(hs:List C)(k:Nat):Prop:=∃m,oT b m/\Md.bN m/\Xu m0 m/\Cs m0.clock m.ax=k/\hs.length+4* k<=150000
def aak:rT Tryz.prog []:=rT.nil
abbrev Mem(a l D r1 rn r0:Nat)(r:Loop)(n:Int)(b:Up.aY)(hs:List C)(L:LH):LH:=
 ob l (.loop r)::ob D (.deferred (some []))::Sep.pt r1 [.pointer (some (ad a 0))]::Sep.pt rn [.i n]::Sep.pt r0 [.pointer (some (ad a 0))]::cO a (b,hs)::L
def Sa(hT:nJ Tryz.prog T82)(hm:Tryz.prog.follows .mixedOrders=true){fn:FuncId}{tmps:Array Value}{D l r0 r1 rn j k:Nat}{r:Loop}
 (hr:r={state:=.ready,pending:=none,fn:=fn,tmps:=tmps,params:=#[12],assign:=Pa,body:=bd,defers:=D})(h20:tmps.size=20)
 (h5:tmps[5]?=some (.pointer (some (ad rn 0))))(h2:tmps[2]?=some (.pointer (some (ad r0 0)))){P3:HP}{n:Int}{b:Up.aY}{hs:List C}{x:Md.bW}{w:World}
 (jW:St W w (P3::Mem a l D r1 rn r0 r n b hs L))(E3:Mid m0 b hs k)(hx:x∈b.ax)(ho:kY b.clock x){R:Ending->World->Prop}
 (hR:∀n' b' ft k' w',k'<k->Mid m0 b' ft k'->St W w' (P3::Mem a l D r1 rn r0 r n' b' ft L)->R (.returned (.bool true)) w'):
 RoundIn Fence.wide j Tryz.prog l fn (tmps.setIfInBounds 12 (.agg ⟨aL x.move⟩)) Pa bd w R:=by
 refine roundIn_of_wpIn trivial ?_;have okF:Ok Jj:=⟨hT,aak,hm⟩;have cf:12<tmps.size:=by omega
 have s3:S3 Jj [] [(12,.agg ⟨aL x.move⟩),(5,.pointer (some (ad rn 0))),(2,.pointer (some (ad r0 0)))] {tmps:=tmps.setIfInBounds 12 (.agg ⟨aL x.move⟩),defers:=[]}:=by
  refine S3.cons ?_ (S3.cons ?_ (S3.cons ?_ (S3.start rfl ?_)))
  ·show(tmps.setIfInBounds 12 _)[12]?=_;simp[cf]
  ·show(tmps.setIfInBounds 12 _)[5]?=_;rw[Array.getElem?_setIfInBounds_ne (by decide)];exact h5
  ·show(tmps.setIfInBounds 12 _)[2]?=_;rw[Array.getElem?_setIfInBounds_ne (by decide)];exact h2
  ·show(tmps.setIfInBounds 12 _).size=20;simp[h20]
 refine Df (F:=Jj) (.inr ⟨l,rfl⟩) okF IV.2.2.2.2.1 s3 ?_;rw[das];obtain⟨m,E0,hg,aef,Wj,hlen⟩:=E3;refine T.at ?_ jW;refine tS λr6=>?_;apply ws;intro w1 Ak a1 ha1;have hl1:=(Ak.obj (k:=2) (b:=l) (o:=.loop r) rfl).1;refine⟨_,run_beginRound hl1 (by rw[hr]),?_⟩;have gX:=Ak.put (k:=2) (b:=l) (o:=.loop r) (.loop {r with state:=.busy}) rfl (by simp);refine Df (F:=Jj) (.inr ⟨l,rfl⟩) okF IV.2.2.2.2.2.1 ha1 ?_;rw[dbd];refine T.at ?_ gX;show T W (Sep.pt r6 (aL x.move)::P3::Mem a l D r1 rn r0 {r with state:=.busy} n b hs L) _;obtain⟨OI,hwt,m',ID,Wu,S5,ahm⟩:=Ha E0 hg aef hx ho;obtain⟨⟨d,hd,-,-⟩,⟨c,hc,-,-⟩,kd⟩:=hwt;refine qm (p:=a) λiq=>?_;have kg:=iq.Q3 x hx;apply ws;show T W _ (dX (some ⟨a,0,none⟩) (aL x.move) (nm 0) 4 _);refine GX (p:=a) (k:=x) OI ho.1 kg.wa kg.move.aU (by decide) hd hc kd (.inr (.inr rfl)) (λh=>aT h (by decide)) (λh=>aT h (by decide)) (by omega) λft ZT=>?_;apply ws;intro w3 vQ a3 ha3;subst hr;have UG:=(vQ.obj (k:=2) (b:=l) (o:=.loop {state:=.busy,pending:=none,fn:=fn,tmps:=tmps,params:=#[12],assign:=Pa,body:=bd,defers:=D}) rfl).1;refine⟨_,_,run_endRound none UG,?_⟩;have yb:=(vQ.put (k:=2) (b:=l) (o:=.loop {state:=.busy,pending:=none,fn:=fn,tmps:=tmps,params:=#[12],assign:=Pa,body:=bd,defers:=D}) (.loop {state:=.ready,pending:=none,fn:=fn,tmps:=tmps,params:=#[12],assign:=Pa,body:=bd,defers:=D}) rfl (by simp)).drop;have:=ZT.len;exact hR _ _ _ _ _ (by omega) ⟨m',ID,Wu,S5,rfl,by omega⟩ yb
abbrev yv(l:Nat):Value:=.func (.yield l) #[] #[]
abbrev Tw(b:Bool)(r3 r1 l:Nat):Env:=(4,.bool b)::(3,.pointer (some (ad r3 0)))::(1,.pointer (some (ad r1 0)))::[(0,yv l)]
def aaC(hT:nJ Tryz.prog T82)(UQ:nJ Tryz.prog aaV)(hm:Tryz.prog.follows .mixedOrders=true){fn:FuncId}{tmps:Array Value}{D l r0 r1 rn j:Nat}{r:Loop}
 (hr:r={state:=.ready,pending:=none,fn:=fn,tmps:=tmps,params:=#[12],assign:=Pa,body:=bd,defers:=D})(h20:tmps.size=20)
 (h5:tmps[5]?=some (.pointer (some (ad rn 0))))(h2:tmps[2]?=some (.pointer (some (ad r0 0)))){n:Int}{b:Up.aY}{hs:List C}{k:Nat}{w:World}
 (jW:St W w (Mem a l D r1 rn r0 r n b hs L))(E3:Mid m0 b hs k){R:Ending->World->Prop}
 (hR:∀n' b' ft k' w',Mid m0 b' ft k'->(∀x∈b'.ax,¬kY b'.clock x)->St W w' (Mem a l D r1 rn r0 r n' b' ft L)->R (.returned (.tuple #[])) w'):
 CallsIn Fence.wide j Tryz.prog 229 #[yv l,.pointer (some (ad r1 0))] w R:=by
 refine callsIn_of_wp Tryz.func229 Xa trivial ?_ rfl;have okF:Ok zh:=⟨UQ,aak,hm⟩;have s0':S3 zh [] [(1,.pointer (some (ad r1 0))),(0,yv l)] {tmps:=#[yv l,.pointer (some (ad r1 0))]++jt (Tryz.f229.ntmps-2) undef,defers:=[]}:=by
  rw[n193.1];refine S3.cons ?_ (S3.cons ?_ (S3.start rfl ?_))
  ·show(#[yv l,.pointer (some (ad r1 0))]++jt 20 undef)[1]?=_;simp
  ·show(#[yv l,.pointer (some (ad r1 0))]++jt 20 undef)[0]?=_;simp
  ·show(#[yv l,.pointer (some (ad r1 0))]++jt 20 undef).size=22;simp
 refine zF (F:=zh) (.inl rfl) okF Fg.1 s0' ?_;rw[ds0];have main:∀(bb:Bool)(x:Md.bW)(r3:Nat)(n:Int)(b:Up.aY)(hs:List C)(k:Nat)(w:World)(a1:Act),S3 zh [] (Tw bb r3 r1 l) a1->St W w (Sep.pt r3 (bG x)::Mem a l D r1 rn r0 r n b hs L)->Mid m0 b hs k->
                                                 (if bb then x∈b.ax/\kY b.clock x else ∀x∈b.ax,¬kY b.clock x)->
                                                 (Code.block 0 (.loop (.seq s1 (.seq (.block 1 (.seq (.region 3 (EF s3) false) (.cond (.tmp 20) .ret .skip))) s4)))).wpIn Fence.wide j Tryz.prog (bodyPost Tryz.prog Tryz.f229 R) a1 w:=by
  intro bb x r3 n b hs k w a1 ha1 uX E3 hbb;refine wpIn_block (Jt (λk a1 w=>∃(bb:Bool)(x:Md.bW)(r3:Nat)(n:Int)(b:Up.aY)(hs:List C),S3 zh [] (Tw bb r3 r1 l) a1/\St W w (Sep.pt r3 (bG x)::Mem a l D r1 rn r0 r n b hs L)/\Mid m0 b hs k/\
   (if bb then x∈b.ax/\kY b.clock x else ∀x∈b.ax,¬kY b.clock x)) ⟨k,bb,x,r3,n,b,hs,ha1,uX,E3,hbb⟩ ?_)
  rintro k a1 w ⟨bb,x,r3,n,b,hs,ha1,uX,E3,hbb⟩;refine zF (F:=zh) (.inl rfl) okF Fg.2.1 ha1 ?_;rw[ds1];cases bb with
  |false=>
   rw[dY];intro a2 Te;show bodyPost Tryz.prog Tryz.f229 R .normal a2 w;refine⟨Te.2,_,results_none n193.2 _ _ _,?_⟩;exact hR _ _ _ _ _ E3 hbb uX.drop
  |true=>
   rw[kG];obtain⟨hx,ho⟩:=hbb;intro a2 Te;have Te:S3 zh [] (Tw true r3 r1 l) a2:=S3.cons (Te.get rfl) (S3.cons (Te.get rfl) (S3.cons (Te.get rfl) (S3.cons (Te.get rfl) Te.nil)));show(Code.seq (.block 1 (.seq (.region 3 (EF s3) false) (.cond (.tmp 20) .ret .skip))) s4).wpIn Fence.wide j Tryz.prog _ a2 w;refine wpIn_seq (wpIn_block (wpIn_seq ?_));refine GY (F:=zh) (.inl rfl) okF 3 (by rw[M9.2.2.2.2];decide) Te ?_ ?_ (K:=λe w'=>St W w' (Sep.pt r3 (bG x)::Mem a l D r1 rn r0 r n b hs L)/\e=(18,.agg ⟨aL x.move⟩)::(17,.pointer (some (ad r3 16)))::(16,yv l)::Tw true r3 r1 l)
   ·rw[ds3];refine T.at ?_ uX;apply ws;exact λw' ft=>⟨ft,rfl⟩
   ·rintro e a3 w3 ha3 ⟨abU,rfl⟩;rw[M9.2.2.2.2];show wpOpsIn Fence.wide j Tryz.prog (EF s3) _ [3,4] a3 w3;rw[wpOpsIn_cons];unfold wpOpIn;simp only[M9.1];rw[ai (by simp[Region.wanted,M9.2.2.2.1])];refine⟨λf _=>trivial,?_⟩;have hl:=(abU.obj (k:=1) (b:=l) (o:=.loop r) rfl).1;have e16:a3.eval (.tmp 16)=yv l:=ha3.eval rfl;have e18:a3.eval (.tmp 18)=.agg ⟨aL x.move⟩:=ha3.eval rfl;rw[show Fence.wide.round=none from rfl,Oper.semAt_none,Gf M9.2.2.1 e16,run_yield hl (by rw[hr];simp),Oper.uponIn_round];refine⟨λh=>(by cases h),?_⟩;have e2:((r.params.zip (#[Operand.tmp 18].map a3.eval)).foldl (λtmps(t,a)=>tmps.setIfInBounds t a) r.tmps)=tmps.setIfInBounds 12 (.agg ⟨aL x.move⟩):=by
     rw[hr];simp[e18]
    rw[e2,show r.fn=fn by rw[hr],show r.assign=Pa by rw[hr],show r.body=bd by rw[hr]];refine Sa (W:=W) (L:=L) (a:=a) (m0:=m0) hT hm hr h20 h5 h2 abU E3 hx ho λn' b' ft k' w' Al OJ adW=>?_;dsimp only;rw[M9.2.1];have UP:=S3.put (v:=.bool true) w' (t:=19) ha3 rfl;refine U4 (F:=zh) (.inl rfl) okF 4 (by rw[M9.2.2.2.2];decide) UP ?_ ?_ (K:=λe w''=>w''=w'/\e=(20,.bool false)::(19,.bool true)::(18,.agg ⟨aL x.move⟩)::(17,.pointer (some (ad r3 16)))::(16,yv l)::Tw true r3 r1 l)
    ·rw[agF];exact⟨rfl,rfl⟩
    ·rintro e a5 w5 ha5 ⟨rfl,rfl⟩;show(Code.cond (.tmp 20) .ret .skip).wpIn Fence.wide j Tryz.prog _ a5 w5;refine wpIn_cond_false (ha5.eval rfl) (wpIn_skip ?_);show s4.wpIn Fence.wide j Tryz.prog _ a5 w5;have ha6:S3 zh [] ((3,.pointer (some (ad r3 0)))::(1,.pointer (some (ad r1 0)))::[(0,yv l)]) a5:=S3.cons (ha5.get rfl) (S3.cons (ha5.get rfl) (S3.cons (ha5.get rfl) ha5.nil));refine Df (F:=zh) (.inl rfl) okF Fg.2.2 ha6 ?_;rw[ds4];refine T.at ?_ adW;apply ws;intros;rename_i r4;refine R8 (p:=a) (λy hy hoy=>?_) (λFZ=>?_)
     ·apply ws;intro w7 UD a7 CF;refine⟨k',Al,true,y,r4,n',b',ft,S3.cons (CF.get rfl) (S3.cons (CF.get rfl) (S3.cons (CF.get rfl) (S3.cons (CF.get rfl) CF.nil))),?_,OJ,⟨hy,hoy⟩⟩;exact(UD.perm (bU.swap _ _ _)).drop
     ·apply ws;intro w7 UD a7 CF;refine⟨k',Al,false,zK,r4,n',b',ft,S3.cons (CF.get rfl) (S3.cons (CF.get rfl) (S3.cons (CF.get rfl) (S3.cons (CF.get rfl) CF.nil))),?_,OJ,FZ⟩;exact(UD.perm (bU.swap _ _ _)).drop
 refine T.at ?_ jW;apply ws;refine R8 (p:=a) (λy hy hoy=>?_) (λFZ=>?_)
 ·apply ws;intros;rename_i r4;intro w7 UD a7 CF;exact main true y r4 n b hs k w7 a7 (S3.cons (CF.get rfl) (S3.cons (CF.get rfl) (S3.cons (CF.get rfl) (S3.cons (CF.get rfl) CF.nil)))) UD E3 ⟨hy,hoy⟩
 ·apply ws;intros;rename_i r4;intro w7 UD a7 CF;exact main false zK r4 n b hs k w7 a7 (S3.cons (CF.get rfl) (S3.cons (CF.get rfl) (S3.cons (CF.get rfl) (S3.cons (CF.get rfl) CF.nil)))) UD E3 FZ
end
def eHT(hm:Tryz.prog.follows .mixedOrders=true)(eU:aF Tryz.prog 182 eo.u)(eF:aF Tryz.prog 183 tj.u)(eR:aF Tryz.prog 184 dX.u)(eD:aF Tryz.prog 230 fh.u):aF Tryz.prog 134 uj.u:=by
 have hT:nJ Tryz.prog T82:=⟨.inl eU,.inl eF,.inl eR,trivial⟩;have UQ:nJ Tryz.prog aaV:=⟨.inl eD,trivial⟩;refine⟨⟨_,Tryz.func134,by kernel_rfl,by kernel_rfl⟩,λargs K w h=>?_⟩;unfold uj.u at h;split at h
 rotate_left
 ·exact h.elim
 rename_i p now;obtain⟨W,L,a,b,m,hs,rfl,uX,E0,hg,hlen,hk⟩:=h;refine(callsIn_wide (n:=0)).1 (callsIn_of_wp_marks Tryz.func134 aaJ trivial ?_ rfl);have okF:Ok Jj:=⟨hT,aak,hm⟩;obtain⟨dr0,dr1,dr2,dr3,-,-,dr7⟩:=IV;have s0':S3 Jj [] [(1,.i now),(0,.pointer (some ⟨a,0,none⟩))] {tmps:=⟨[.pointer (some ⟨a,0,none⟩),.i now]⟩++jt (Tryz.f134.ntmps-2) undef,defers:=[]}:=by
  rw[n82.1];refine S3.cons ?_ (S3.cons ?_ (S3.start rfl ?_))
  ·show(#[Value.pointer (some ⟨a,0,none⟩),.i now]++jt 18 undef)[1]?=_;simp
  ·show(#[Value.pointer (some ⟨a,0,none⟩),.i now]++jt 18 undef)[0]?=_;simp
  ·show(#[Value.pointer (some ⟨a,0,none⟩),.i now]++jt 18 undef).size=20;simp
 refine zF (F:=Jj) (.inl rfl) okF dr0 s0' ?_;rw[d0];refine T.at ?_ uX;refine tS λr0=>?_;intro w1 Ak a1 ha1;refine zF (F:=Jj) (.inl rfl) okF dr1 ha1 ?_;rw[d1];refine T.at ?_ Ak;refine m9 rfl (za ?_);refine Vg (p:=a) (by omega) λabX hx1=>Bt ?_;have hl1:=hx1.len;intro w2 gX a2 Te;refine zF (F:=Jj) (.inl rfl) okF dr2 Te ?_;rw[d2];refine T.at ?_ gX;refine tS λrn=>?_;apply ws;intro w3 vQ a3 ha3;refine wpIn_seq (zF (F:=Jj) (.inl rfl) okF dr3 ha3 ?_);rw[d3];refine T.at ?_ vQ;refine m9 rfl (za ?_);unfold tj;refine tS λr1=>?_;intro w4 yb a4 UP;have yb:St W w4 (Sep.pt r1 [.pointer (some (ad a 0))]::Sep.pt rn [.i 0]::Sep.pt r0 [.pointer (some (ad a 0))]::cO a (Go.Up.tick b now,abX)::L):=yb;show(Code.block 0 (.rangeFunc (.tmp 11) #[12] Pa bd)).wpIn Fence.wide 0 Tryz.prog _ a4 w4;refine wpIn_block ?_;refine Sd rfl (g:=.tmp 11) (gf:=229) (UP.eval rfl) Tryz.func229 (by kernel_rfl) (by kernel_rfl) λfn=>?_;have ho1:=(yb.abJ (.deferred (some [])) (by simp)).abJ (.loop {state:=.ready,pending:=none,fn:=fn,tmps:=a4.tmps,params:=#[12],assign:=Pa,body:=bd,defers:=w4.heap.size}) (by simp);rw[World.size_alloc] at ho1;have E3:Mid (uB m now) (Go.Up.tick b now) abX (Cs (uB m now).clock (uB m now).ax):=⟨uB m now,QW E0 now,CT hg now,Xu.refl _,rfl,by
  have:Cs (uB m now).clock (uB m now).ax<=96:=y9 (List.length_filter_le _ _) hg.some_
  omega⟩
 refine aaC (W:=W) (L:=L) (a:=a) (m0:=uB m now) (r0:=r0) (rn:=rn) (D:=w4.heap.size) (tmps:=a4.tmps) hT UQ hm rfl UP.1.1.size (UP.get rfl) (UP.get rfl) ho1 E3 λn' b' ft k' w5 OJ FZ OG=>?_;have hl5:=(OG.obj (k:=0) (b:=w4.heap.size+1) rfl).1;refine⟨_,_,run_endLoop hl5 (by simp),?_⟩;show Exit.inBlock 0 _ .normal _ _;have Z0:=OG.put (k:=0) (b:=w4.heap.size+1) (.loop {state:=.exhausted,pending:=none,fn:=fn,tmps:=a4.tmps,params:=#[12],assign:=Pa,body:=bd,defers:=w4.heap.size}) rfl (by simp);have Z0:St W _ (ob (w4.heap.size+1) (.loop {state:=.exhausted,pending:=none,fn:=fn,tmps:=a4.tmps,params:=#[12],assign:=Pa,body:=bd,defers:=w4.heap.size})::ob w4.heap.size (.deferred (some []))::Sep.pt r1 [.pointer (some (ad a 0))]::Sep.pt rn [.i n']::Sep.pt r0 [.pointer (some (ad a 0))]::cO a (b',ft)::L):=Z0;show(Code.seq q7 .ret).wpIn Fence.wide 0 Tryz.prog _ _ _;have ha5:S3 Jj [{target:=.collected w4.heap.size,args:=#[]}] [(5,.pointer (some (ad rn 0)))] {a4 with defers:={target:=.collected w4.heap.size,args:=#[]}::a4.defers}:=by
  refine S3.cons (UP.get rfl) ⟨⟨⟨UP.1.1.size,rfl,λt v hl=>by simp[lk] at hl⟩,UP.1.2⟩,?_⟩;show _::a4.defers=_;rw[UP.2]
 refine zF (F:=Jj) (.inl rfl) okF dr7 ha5 ?_;rw[d7];refine T.at ?_ Z0;refine m9 (r:=rn) (o:=0) rfl (pF ?_);intro w7 UD a7 CF;show Code.ret.wpIn Fence.wide 0 Tryz.prog _ a7 w7;refine wpIn_ret ?_;show LeavesInM _ _ _ _ _ _ a7.defers _ _;rw[CF.2];have hD:=(UD.obj (k:=1) (b:=w4.heap.size) rfl).1;have hs8:=UD.put (k:=1) (b:=w4.heap.size) (.deferred none) rfl (by simp);refine⟨by simp,.inl ⟨_,_,rfl,run_takeDeferred hD,?_⟩⟩;refine⟨_,results_tmp n82.2 _ _ _,_,rfl,?_⟩;have e4:a7.tmps.getD 4 undef=.i n':=by rw[Array.getD_eq_getD_getElem?,CF.get (t:=4) rfl];rfl
 rw[e4];obtain⟨m',ID,Wu,S5,-,ab9⟩:=OJ;have:=Hb ID S5 FZ;rw[<-HZ] at this;subst this;exact hk n' b' ft _ ID Wu (by omega) hs8.drop.drop.drop.drop.drop
end Go.Proofs.YtibneekkkdnmgaaGreatDoor
namespace Go.Proofs.YtibneekkkdnmgaaGreatDoor
open Go.Den Go.Prog
noncomputable abbrev P:Program:=Tryz.prog
def mixed:P.follows .mixedOrders=true:=by kernel_rfl
def eqs:Un:=[(45,[.u 0,.u 0]),(47,dR),(52,iw),(54,cF)]
def acA:rT P eqs:=rT.cons (by kernel_rfl) (by kernel_rfl) Tryz.underlying45 (rT.cons (by kernel_rfl) (by kernel_rfl) Tryz.underlying47 (rT.cons (by kernel_rfl) (by kernel_rfl) Tryz.underlying52 (rT.cons (by kernel_rfl) (by kernel_rfl) Tryz.underlying54 rT.nil)))
def t0:nJ P []:=trivial
def tk{T:F1}{g:Nat}{p:WP}(e:aF P g p)(h:nJ P T):nJ P ((g,p)::T):=⟨.inl e,h⟩
def tx{T:F1}{g:Nat}{p:WP}(e:Xt P g p)(h:nJ P T):nJ P ((g,p)::T):=⟨.inr e,h⟩
section
variable {g1 g2 g3 g4 g5 g6 g7 g8:Nat} {p1 p2 p3 p4 p5 p6 p7 p8:WP}
def t1(a:aF P g1 p1):nJ P [(g1,p1)]:=tk a t0
def t2(a:aF P g1 p1)(b:aF P g2 p2):nJ P [(g1,p1),(g2,p2)]:=tk a (t1 b)
def t3(a:aF P g1 p1)(b:aF P g2 p2)(c:aF P g3 p3):nJ P [(g1,p1),(g2,p2),(g3,p3)]:=tk a (t2 b c)
def t4(a:aF P g1 p1)(b:aF P g2 p2)(c:aF P g3 p3)(d:aF P g4 p4):nJ P [(g1,p1),(g2,p2),(g3,p3),(g4,p4)]:=tk a (t3 b c d)
def t5(a:aF P g1 p1)(b:aF P g2 p2)(c:aF P g3 p3)(d:aF P g4 p4)(e:aF P g5 p5):nJ P [(g1,p1),(g2,p2),(g3,p3),(g4,p4),(g5,p5)]:=tk a (t4 b c d e)
def t6(a:aF P g1 p1)(b:aF P g2 p2)(c:aF P g3 p3)(d:aF P g4 p4)(e:aF P g5 p5)(f:aF P g6 p6):nJ P [(g1,p1),(g2,p2),(g3,p3),(g4,p4),(g5,p5),(g6,p6)]:=tk a (t5 b c d e f)
end
def fi{n k:Nat}{f g:WK}{w:World}(h:f w)(e:f=g:=by kernel_rfl)(l:Nat.ble n k=true:=by rfl):n<=k/\g w:=⟨aJ l,e▸h⟩
def em{T:F1}{g:Nat}{fn:Func}{p:WP}(m:List Nat)(I4:List (Nat×List (Nat×Value)))(hT:nJ P T)(hf:P.funcs[g]?=some fn)
 (hp:∀args K w,p args K w->args.length<=fn.ntmps/\body P T eqs fn.ntmps m I4 fn.results.toList (fn.body.getD .skip) args K w)(hs:fn.body.isSome=true:=by rfl)(hn:(fn.name== "runtime.NumGoroutine")=false:=by decide):aF P g p:=
 Tl m I4 hT acA mixed hf (by obtain⟨c,hc⟩:=Option.isSome_iff_exists.1 hs;rw[hc];rfl) hn hp
def en{T:F1}{g:Nat}{fn:Func}{p:WP}(I4:List (Nat×List (Nat×Value)))(hT:nJ P T)(hf:P.funcs[g]?=some fn)
 (hp:∀args K w,p args K w->args.length<=fn.ntmps/\body P T eqs fn.ntmps [] I4 fn.results.toList (fn.body.getD .skip) args K w)(hs:fn.body.isSome=true:=by rfl)(hn:(fn.name== "runtime.NumGoroutine")=false:=by decide):aF P g p:=em [] I4 hT hf hp hs hn
def e0{T:F1}{g:Nat}{fn:Func}{p:WP}(hT:nJ P T)(hf:P.funcs[g]?=some fn)
 (hp:∀args K w,p args K w->args.length<=fn.ntmps/\body P T eqs fn.ntmps [] [] fn.results.toList (fn.body.getD .skip) args K w)(hs:fn.body.isSome=true:=by rfl)(hn:(fn.name== "runtime.NumGoroutine")=false:=by decide):aF P g p:=em [] [] hT hf hp hs hn
def uc{k:List Kd}{F:Fu k}{T:F1}{g:Nat}{fn:Func}(m:List Nat)(I4:List (Nat×List (Nat×Value)))(hT:nJ P T)(hf:P.funcs[g]?=some fn)
 (e:F=cur k (body P T eqs fn.ntmps m I4 fn.results.toList (fn.body.getD .skip)):=by kernel_rfl)(l:Nat.ble k.length fn.ntmps=true:=by rfl)(hs:fn.body.isSome=true:=by rfl)(hn:(fn.name== "runtime.NumGoroutine")=false:=by decide):aF P g (U k F):=
 em m I4 hT hf (λa K w h=>by subst e;obtain⟨h1,h2⟩:=Bf k _ h;exact⟨by rw[h1];exact aJ l,h2⟩) hs hn
def ub{k:List Kd}{F:Fu k}{T:F1}{g:Nat}{fn:Func}(I4:List (Nat×List (Nat×Value)))(hT:nJ P T)(hf:P.funcs[g]?=some fn)
 (e:F=cur k (body P T eqs fn.ntmps [] I4 fn.results.toList (fn.body.getD .skip)):=by kernel_rfl)(l:Nat.ble k.length fn.ntmps=true:=by rfl)(hs:fn.body.isSome=true:=by rfl)(hn:(fn.name== "runtime.NumGoroutine")=false:=by decide):aF P g (U k F):=uc [] I4 hT hf e l hs hn
def ua{k:List Kd}{F:Fu k}{T:F1}{g:Nat}{fn:Func}(hT:nJ P T)(hf:P.funcs[g]?=some fn)
 (e:F=cur k (body P T eqs fn.ntmps [] [] fn.results.toList (fn.body.getD .skip)):=by kernel_rfl)(l:Nat.ble k.length fn.ntmps=true:=by rfl)(hs:fn.body.isSome=true:=by rfl)(hn:(fn.name== "runtime.NumGoroutine")=false:=by decide):aF P g (U k F):=uc [] [] hT hf e l hs hn
def ae6:Xt P 280 qY.u:=λargs K w h=>by
 unfold qY.u at h;split at h
 ·rename_i x y c;obtain⟨⟨⟨hx,hy⟩,h0,h1⟩,hk⟩:=h;exact⟨_,_,by rw[run_callFunc_extern Tryz.func280 (by kernel_rfl) (by kernel_rfl) (by kernel_rfl) (e:=add64Entry) (by kernel_rfl),run_add64 x y c hx hy h0 h1];rfl,hk⟩
 ·exact h.elim
def abv:Array Value->Sem Value:=λargs=>do
 let(x,y,b)<-Extern.MathBitsCarry.three "Sub64" args
 pure (Extern.MathBitsCarry.pair ((x+Extern.MathBitsCarry.m64-y-b)%Extern.MathBitsCarry.m64) (if x<y+b then 1 else 0))
def Vk(x y b:Nat)(hb:b<=1)(w:World):(abv #[.u x,.u y,.u b]).run P w=
 .ok (.tuple #[.u (((x+18446744073709551616-y-b)%18446744073709551616:Nat):Int),.u ((if x<y+b then 1 else 0:Nat):Int)]) w:=by
 have:b=0\/b=1:=by omega
 rcases this with rfl|rfl<;>rfl
def ae7:Xt P 279 qX.u:=λargs K w h=>by
 unfold qX.u at h;split at h
 ·rename_i x y c;obtain⟨⟨⟨hx,hy,hy2⟩,h0,h1⟩,hk⟩:=h;obtain⟨x,rfl⟩:=bm hx;obtain⟨y,rfl⟩:=bm hy;obtain⟨c,rfl⟩:=bm h0;refine⟨_,_,by rw[run_callFunc_extern Tryz.func279 (by kernel_rfl) (by kernel_rfl) (by kernel_rfl) (e:=abv) (by kernel_rfl),Vk x y c (by omega)];rfl,?_⟩;have a1:(((x+18446744073709551616-y-c)%18446744073709551616:Nat):Int)=((x:Int) -y-c)%18446744073709551616:=by omega
  have a2:((if x<y+c then 1 else 0:Nat):Int)=if(x:Int)<y+c then 1 else 0:=by split<;>split<;>omega
  rw[a1,a2];exact hk
 ·exact h.elim
end Go.Proofs.YtibneekkkdnmgaaGreatDoor
namespace Go.Proofs
open Go.Shelf
def Tryz.Cx:Go.Shelf.Ren:=⟨λ|169=>201|n=>n,λ|70=>283|9=>9|0=>0|72=>285|37=>163|127=>331|3=>3|5=>5|n=>n,λ|n=>n⟩
theorem Tryz.V6:Go.Proofs.Lays.n169 Tryz.prog Tryz.Cx:={
 mixed:=by kernel_rfl
 f169:=Tryz.func201.trans (congrArg some (by kernel_rfl))
 t0:=Tryz.underlying0
 a0:=Tryz.isAgg0
 z0:=Tryz.sizeOf0
 v0:=Tryz.zeroValue0
 t3:=Tryz.underlying3
 a3:=Tryz.isAgg3
 z3:=Tryz.sizeOf3
 v3:=Tryz.zeroValue3
 t9:=Tryz.underlying9
 a9:=Tryz.isAgg9
 z9:=Tryz.sizeOf9
 v9:=Tryz.zeroValue9
 t37:=Tryz.underlying163
 a37:=Tryz.isAgg163
 z37:=Tryz.sizeOf163
 v37:=Tryz.zeroValue163
 t70:=Tryz.underlying283
 a70:=Tryz.isAgg283
 z70:=Tryz.sizeOf283
 v70:=Tryz.zeroValue283
 t72:=Tryz.underlying285
 a72:=Tryz.isAgg285
 z72:=Tryz.sizeOf285
 v72:=Tryz.zeroValue285
 t127:=Tryz.underlying331
 a127:=Tryz.isAgg331
 z127:=Tryz.sizeOf331
 v127:=Tryz.zeroValue331}
theorem Tryz.Bj:Builder.Extra Tryz.prog Tryz.Cx:={
 sizeBuilder:=by kernel_rfl
 liesBuilder:=by kernel_rfl
 t5:=Tryz.underlying5
 a5:=Tryz.isAgg5
 z5:=Tryz.sizeOf5
 v5:=Tryz.zeroValue5
 infoByte:=by kernel_rfl
 cellsByte:=by kernel_rfl
 sizeByte:=by kernel_rfl
 neB5:=by decide}
open Go.RowKit in
theorem Tryz.Builder_String_any(B b:Nat)(l:List UInt8)(w:World)(h:Lib.IsBuilder 285 5 B b (Lib.byteCells l) w)(hBw:B<=w.heap.size):
 Calls Tryz.prog 201 #[.pointer (some ⟨b,0,none⟩)] w λe w'=>e=.returned (.string ⟨l.toArray⟩)/\Below B w w':=Any.Builder_String_any Tryz.V6 Tryz.Bj B b l w h hBw
def Tryz.yy:Go.Shelf.Ren:=⟨λ|105=>148|212=>196|99=>197|165=>198|166=>199|170=>200|169=>201|263=>241|264=>242|206=>243|240=>244|241=>245|276=>292|277=>293|n=>n,λ|9=>9|3=>3|4=>4|20=>20|0=>0|46=>229|109=>280|5=>5|72=>285|76=>288|51=>322|146=>327|53=>27|148=>329|70=>283|37=>163|75=>287|127=>331|164=>361|80=>171|n=>n,λ|n=>n⟩
theorem Tryz.Ou:Go.Proofs.Lays.n105 Tryz.prog Tryz.yy:={
 mixed:=by kernel_rfl
 f99:=Tryz.func197.trans (congrArg some (by kernel_rfl))
 f105:=Tryz.func148.trans (congrArg some (by kernel_rfl))
 f165:=Tryz.func198.trans (congrArg some (by kernel_rfl))
 f166:=Tryz.func199.trans (congrArg some (by kernel_rfl))
 f169:=Tryz.func201.trans (congrArg some (by kernel_rfl))
 f170:=Tryz.func200.trans (congrArg some (by kernel_rfl))
 f206:=Tryz.func243.trans (congrArg some (by kernel_rfl))
 f212:=Tryz.func196.trans (congrArg some (by kernel_rfl))
 f240:=Tryz.func244.trans (congrArg some (by kernel_rfl))
 f241:=Tryz.func245.trans (congrArg some (by kernel_rfl))
 f263:=Tryz.func241.trans (congrArg some (by kernel_rfl))
 f264:=Tryz.func242.trans (congrArg some (by kernel_rfl))
 f276:=Tryz.func292.trans (congrArg some (by kernel_rfl))
 f277:=Tryz.func293.trans (congrArg some (by kernel_rfl))
 t0:=Tryz.underlying0
 a0:=Tryz.isAgg0
 z0:=Tryz.sizeOf0
 v0:=Tryz.zeroValue0
 t3:=Tryz.underlying3
 a3:=Tryz.isAgg3
 z3:=Tryz.sizeOf3
 v3:=Tryz.zeroValue3
 t4:=Tryz.underlying4
 a4:=Tryz.isAgg4
 z4:=Tryz.sizeOf4
 v4:=Tryz.zeroValue4
 t5:=Tryz.underlying5
 a5:=Tryz.isAgg5
 z5:=Tryz.sizeOf5
 v5:=Tryz.zeroValue5
 t9:=Tryz.underlying9
 a9:=Tryz.isAgg9
 z9:=Tryz.sizeOf9
 v9:=Tryz.zeroValue9
 t20:=Tryz.underlying20
 a20:=Tryz.isAgg20
 z20:=Tryz.sizeOf20
 v20:=Tryz.zeroValue20
 t37:=Tryz.underlying163
 a37:=Tryz.isAgg163
 z37:=Tryz.sizeOf163
 v37:=Tryz.zeroValue163
 t46:=Tryz.underlying229
 a46:=Tryz.isAgg229
 z46:=Tryz.sizeOf229
 v46:=Tryz.zeroValue229
 t51:=Tryz.underlying322
 a51:=Tryz.isAgg322
 z51:=Tryz.sizeOf322
 v51:=Tryz.zeroValue322
 t53:=Tryz.underlying27
 a53:=Tryz.isAgg27
 z53:=Tryz.sizeOf27
 v53:=Tryz.zeroValue27
 t70:=Tryz.underlying283
 a70:=Tryz.isAgg283
 z70:=Tryz.sizeOf283
 v70:=Tryz.zeroValue283
 t72:=Tryz.underlying285
 a72:=Tryz.isAgg285
 z72:=Tryz.sizeOf285
 v72:=Tryz.zeroValue285
 t75:=Tryz.underlying287
 a75:=Tryz.isAgg287
 z75:=Tryz.sizeOf287
 v75:=Tryz.zeroValue287
 t76:=Tryz.underlying288
 a76:=Tryz.isAgg288
 z76:=Tryz.sizeOf288
 v76:=Tryz.zeroValue288
 t109:=Tryz.underlying280
 a109:=Tryz.isAgg280
 z109:=Tryz.sizeOf280
 v109:=Tryz.zeroValue280
 t127:=Tryz.underlying331
 a127:=Tryz.isAgg331
 z127:=Tryz.sizeOf331
 v127:=Tryz.zeroValue331
 t146:=Tryz.underlying327
 a146:=Tryz.isAgg327
 z146:=Tryz.sizeOf327
 v146:=Tryz.zeroValue327
 t148:=Tryz.underlying329
 a148:=Tryz.isAgg329
 z148:=Tryz.sizeOf329
 v148:=Tryz.zeroValue329
 t164:=Tryz.underlying361
 a164:=Tryz.isAgg361
 z164:=Tryz.sizeOf361
 v164:=Tryz.zeroValue361}
theorem Tryz.vA:Builder.Extra Tryz.prog Tryz.yy:={
 sizeBuilder:=by kernel_rfl
 liesBuilder:=by kernel_rfl
 t5:=Tryz.underlying5
 a5:=Tryz.isAgg5
 z5:=Tryz.sizeOf5
 v5:=Tryz.zeroValue5
 infoByte:=by kernel_rfl
 cellsByte:=by kernel_rfl
 sizeByte:=by kernel_rfl
 neB5:=by decide}
open Go.RowKit Go.Lib in
theorem Tryz.strings_Repeat(s:ByteArray)(c:Nat)(w:World)(hc:c<=9223372036854775807)(hlen:s.size* c<=140737488355328):
 Calls Tryz.prog 148 #[.string s,.int .i64 c] w λe w'=>e=.returned (.string ⟨(Lib.repeatL s.data.toList c).toArray⟩)/\Below w.heap.size w w':=Any.strings_Repeat Tryz.Ou Tryz.vA s c w hc hlen
open Go.RowKit Go.Lib in
theorem Tryz.V7:Go.Proofs.Lays.n166 Tryz.prog Tryz.yy:={Tryz.Ou with}
open Go.RowKit in
theorem Tryz.Builder_WriteString(B b:Nat)(bs:List Value)(s:ByteArray)(w:World)(h:Lib.IsBuilder 285 5 B b bs w)(hlen:bs.length+s.size<=140737488355328)(hBw:B<=w.heap.size):
 Calls Tryz.prog 199 #[.pointer (some ⟨b,0,none⟩),.string s] w λe w'=>e=.returned (.tuple #[.int .i64 s.size,.nilIface])/\(Lib.BuilderAt 285 5 B b (.pointer (some ⟨b,0,none⟩)) (bs++Lib.strCells s) w'/\Below B w w'):=Any.Builder_WriteString Tryz.V7 Tryz.vA B b bs s w h hlen hBw
end Go.Proofs
namespace Go.Proofs.YtibneekkkdnmgaaGreatDoor
open Go.Den Go.Prog
def N'(l:List UInt8):∀n,El l n=Go.Lib.repeatL l n
 |0=>rfl
 |n+1=>by simp[El,Go.Lib.repeatL,N' l n]
def adg:aF P 148 strings_Repeat.u:=⟨⟨_,Tryz.func148,rfl,rfl⟩,λargs K w h=>by
 unfold strings_Repeat.u at h
 split at h
 ·rename_i s n
  obtain⟨⟨h0,h1,h2⟩,hk⟩:=h
  obtain⟨m,rfl⟩:=bm h0
  refine(Go.Proofs.Tryz.strings_Repeat s m w (by omega) (by simpa using h1)).mono λe w' ⟨he,hb⟩=>⟨_,he,?_⟩
  rw[<-N'];exact hk w' hb
 ·exact h.elim⟩
def afN:aF P 199 ir.u:=⟨⟨_,Tryz.func199,rfl,rfl⟩,λargs K w h=>by
 unfold ir.u at h
 split at h
 ·rename_i p s
  obtain⟨B,b,l,rfl,hb,hl,hB,hk⟩:=h
  refine(Go.Proofs.Tryz.Builder_WriteString B b (Go.Lib.byteCells l) s w hb (by simpa [Go.Lib.byteCells] using hl) hB).mono λe w' ⟨he,hbb,hbl⟩=>⟨_,he,hk w' (.inr ?_) hbl⟩
  have e:Go.Lib.byteCells (l++s.data.toList)=Go.Lib.byteCells l++Go.Lib.strCells s:=by simp[Go.Lib.byteCells,Go.Lib.strCells]
  rw[e];exact hbb
 ·exact h.elim⟩
def afM:aF P 201 jI.u:=⟨⟨_,Tryz.func201,rfl,rfl⟩,λargs K w h=>by
 unfold jI.u at h
 split at h
 ·obtain⟨B,b,l,rfl,hb,hB,hk⟩:=h
  exact(Go.Proofs.Tryz.Builder_String_any B b l w hb hB).mono λe w' ⟨he,hbl⟩=>⟨_,he,hk w' hbl⟩
 ·exact h.elim⟩
def e60:aF P 60 (U [.s] pc):=ua t0 Tryz.func60
def aaB:aF P 108 (U [.p,.n] fa):=ua t0 Tryz.func108
def Rc:aF P 61 aN.u:=en [(3,[(4,vi),(5,vi),(13,vl),(14,vi),(15,vi)])] (t1 aaB) Tryz.func61 λa K w h=>by unfold aN.u at h;split at h;exact fi h;exact h.elim
def agx:aF P 110 (U [.s] rv):=ub [(5,[(2,vq),(3,vb),(4,vq),(10,vi)])] t0 Tryz.func110
def e66:aF P 66 cS.u:=e0 (t2 aaB agx) Tryz.func66 λa K w h=>by unfold cS.u at h;split at h;exact fi h;exact h.elim
def M7:aF P 109 cW.u:=e0 t0 Tryz.func109 λa K w h=>by unfold cW.u at h;split at h;exact fi h;exact h.elim
def e63:aF P 63 oo.u:=e0 (t3 Rc e66 M7) Tryz.func63 λa K w h=>by unfold oo.u at h;split at h;exact fi h;exact h.elim
def e65:aF P 65 mZ.u:=e0 (t3 Rc e66 M7) Tryz.func65 λa K w h=>by unfold mZ.u at h;split at h;exact fi h;exact h.elim
def e69:aF P 69 (U [.p] lA):=ua t0 Tryz.func69
def agt:aF P 121 (U [.p] pY):=ua t0 Tryz.func121
def afQ:aF P 191 (U [] vZ):=ua t0 Tryz.func191
def afP:aF P 192 (U [.p] ql):=ua t0 Tryz.func192
def afO:aF P 193 (U [.p] so):=ua t0 Tryz.func193
def adh:aF P 144 (U [] uu):=ua (t3 afQ afP afO) Tryz.func144
def afm:aF P 251 (U [.g] tV):=ua t0 Tryz.func251
def WS:aF P 205 (U [.p,.g] dk):=ub [(5,[(3,vq),(4,vi),(5,vb),(6,vu),(7,vi),(8,vu)])] (t1 afm) Tryz.func205
def M6:aF P 161 (U [.p,.g] hO):=ua (t1 WS) Tryz.func161
def afI:aF P 206 (U [.p] qd):=ub [(2,[(2,vl),(3,vi)]),(6,[(30,vl),(31,vi),(32,vi)])] (t1 WS) Tryz.func206
def aau:aF P 162 (U [.p,.g,.n] dT):=ua (t2 WS afI) Tryz.func162
def IU:aF P 207 (U [.p,.v] ik):=ua t0 Tryz.func207
def afH:aF P 208 cA.u:=e0 t0 Tryz.func208 λa K w h=>by unfold cA.u at h;split at h;exact fi h;exact h.elim
def ac':aF P 163 (U [.p,.g] iK):=ua (t1 IU) Tryz.func163
def afk:aF P 253 fE.u:=e0 t0 Tryz.func253 λa K w h=>by unfold fE.u at h;split at h;exact fi h;exact h.elim
def afl:aF P 252 (U [.n,.v] u5):=ub [(2,[(4,vi),(5,vi),(6,vi)])] (t1 afk) Tryz.func252
def aaq:aF P 209 (U [.p,.n] lE):=ua (t1 afl) Tryz.func209
def ac9:aF P 164 (U [.p,.n,.n] jd):=ua (t1 aaq) Tryz.func164
def WT:aF P 165 (U [.p] fW):=ua t0 Tryz.func165
def afG:aF P 210 cV.u:=e0 t0 Tryz.func210 λa K w h=>by unfold cV.u at h;split at h;exact fi h;exact h.elim
def ac8:aF P 166 (U [.p,.g] jG):=ua (t1 IU) Tryz.func166
def aat:aF P 167 (U [.g] ur):=ua t0 Tryz.func167
def acS:aF P 254 (U [.g,.g] rF):=ua t0 Tryz.func254
def ac1:aF P 211 (U [.p,.n] jc):=uc [1] [(0,[(1,vi)])] (t1 acS) Tryz.func211
def aas:aF P 168 (U [.p,.g] lD):=ua (t1 ac1) Tryz.func168
def ac7:aF P 169 (U [.p] mw):=ua t0 Tryz.func169
def ags:aF P 122 (U [.l,.l,.n,.n] eG):=ub [(5,[(8,vp),(9,vi),(10,vp),(46,vl),(47,vi),(48,vi)]),(13,[(8,vp),(9,vi),(10,vp),(77,vl),(78,vi),(79,vi)])] (tk adh (tk M6 (tk aau (tk ac' (tk ac9 (tk WT (tk ac8 (tk aat (tk aas (tk ac7 t0)))))))))) Tryz.func122
def e85:aF P 85 (U [.s] oI):=ub [(10,[(2,vp),(3,vi),(4,vp),(5,vi),(6,vi),(8,vi),(9,vl),(38,vi),(39,vi)]),(15,[(2,vp),(3,vi),(4,vp),(5,vi),(6,vi),(9,vl),(10,vl),(47,vi),(48,vi)])] (tk e60 (tk Rc (tk e63 (tk e65 (tk e69 (tk M7 (tk agt (tk ags t0)))))))) Tryz.func85
def e48:aF P 48 (U [.p] kf):=ua t0 Tryz.func48
def e21:aF P 21 (U [.p] iD):=ua (t1 e48) Tryz.func21
def e49:aF P 49 (U [.p] lW):=ua t0 Tryz.func49
def e22:aF P 22 (U [.p] jU):=ua (t1 e49) Tryz.func22
def e26:aF P 26 (U [.p] lh):=ua t0 Tryz.func26
def e30:aF P 30 (U [.p] nj):=ua t0 Tryz.func30
def Rb:aF P 90 (U [.p,.n,.n] bl):=ub [(1,[(9,vi),(10,vi)])] t0 Tryz.func90
def e93:aF P 93 (U [.p] dz):=ua t0 Tryz.func93
def aaA:aF P 113 (U [.g] ja):=ua t0 Tryz.func113
def af3:aF P 174 (U [.g] wH):=ub [(3,[(1,vq),(2,.s .empty),(3,vq),(5,vi)])] t0 Tryz.func174
def WV:aF P 129 (U [.p,.g] lz):=ua (t1 af3) Tryz.func129
def adm:aF P 123 (U [.p,.g] rR):=ub [(4,[(3,vq),(20,.agg #[]),(21,vi)])] (t3 Rb aaA WV) Tryz.func123
def aaz:aF P 114 (U [.g] fN):=ua t0 Tryz.func114
def adl:aF P 124 (U [.p,.g] qp):=ub [(4,[(3,vq),(20,.agg #[]),(21,vi)])] (t3 Rb aaz WV) Tryz.func124
def e86:aF P 86 (U [.p] s8):=ub [(8,[(2,.s .empty),(3,vq),(31,vl),(32,vi),(33,vi)]),(13,[(2,.s .empty),(3,vq),(42,vl),(43,vi),(44,vi)])] (tk e21 (tk e22 (tk e26 (tk e30 (tk Rb (tk e93 (tk adm (tk adl t0)))))))) Tryz.func86
def e47:aF P 47 (U [.p] px):=ua (t2 e85 e86) Tryz.func47
def e20:aF P 20 (U [.p] jJ):=ua (t1 e47) Tryz.func20
def e62:aF P 62 (U [.p,.v] mH):=ub [(3,[(4,vl),(5,vl),(7,vi),(8,vi)])] (t3 e63 Rc M7) Tryz.func62
def e64:aF P 64 (U [.p,.v] lR):=ub [(3,[(4,vl),(5,vl),(7,vi),(8,vi)])] (t3 Rc M7 e65) Tryz.func64
def e67:aF P 67 (U [.p] mm):=ua (t1 Rc) Tryz.func67
def e68:aF P 68 (U [.p,.v] pw):=ub [(3,[(4,vl),(5,vl),(7,vi),(8,vi)])] (t3 Rc e66 M7) Tryz.func68
def adp:aF P 111 (U [.g] tu):=ua t0 Tryz.func111
def ado:aF P 112 (U [.g] ic):=ua t0 Tryz.func112
def e70:aF P 70 (U [.g] pa):=ub [(6,[(2,vb),(20,vl),(21,vi),(22,vi)]),(13,[(2,vb),(33,vl),(34,vi),(35,vi)])] (t4 adp ado aaA aaz) Tryz.func70
def e33:aF P 33 (U [.s] ku):=ua (tk e60 (tk Rc (tk e62 (tk e64 (tk e66 (tk e67 (tk e68 (tk e69 (tk e70 t0))))))))) Tryz.func33
def e73:aF P 73 (U [.g] pV):=ub [(2,[(1,vq),(2,vb),(10,vl),(11,vi),(12,vi)]),(8,[(1,vq),(2,vb),(24,vl),(25,vi),(26,vi)]),(14,[(1,vq),(2,vb),(35,vl),(36,vi),(37,vi)])] (t2 aaA aaz) Tryz.func73
def e91:aF P 91 (U [.p,.l] kJ):=ub [(2,[(12,vl),(13,vi),(14,vi)])] (t2 Rb adm) Tryz.func91
def e92:aF P 92 (U [.p,.l] kn):=ub [(2,[(12,vl),(13,vi),(14,vi)])] (t2 Rb adl) Tryz.func92
def e54:aF P 54 (U [.g] kr):=ub [(7,[(1,vq),(2,.s .empty),(3,vq),(26,vl),(27,vi),(28,vi)])] (t5 e73 Rb e91 e92 e93) Tryz.func54
def e94:aF P 94 (U [.g] qC):=ua t0 Tryz.func94
def acR:aF P 255 (U [.p] fP):=ua t0 Tryz.func255
def ac0:aF P 212 (U [.p,.n] dL):=ua (t1 acR) Tryz.func212
def QC:aF P 170 (U [.p,.g] dO):=ua (t2 M6 ac0) Tryz.func170
def agr:aF P 125 (U [.p,.l] tZ):=ub [(3,[(4,vl),(5,vl),(10,vl),(11,vi),(12,vi)])] (t1 QC) Tryz.func125
def aap:aF P 213 (U [.p,.n] dJ):=ua (t1 WT) Tryz.func213
def QB:aF P 171 (U [.p,.g] il):=ua (t2 M6 aap) Tryz.func171
def agq:aF P 126 (U [.p,.l] sT):=ub [(3,[(4,vl),(5,vl),(10,vl),(11,vi),(12,vi)])] (t1 QB) Tryz.func126
def afF:aF P 214 (U [.p,.n,.n,.b] fU):=ub [(9,[(8,vl),(9,vi),(10,vi),(11,vl)]),(14,[(8,vl),(11,vl),(12,vi),(13,vi)])] (t1 aaq) Tryz.func214
def af5:aF P 172 (U [.p,.n,.n,.b] nP):=ub [(5,[(8,vl),(9,vl),(22,vl),(23,vi),(24,vi)])] (t2 aap afF) Tryz.func172
def agp:aF P 127 (U [.p,.g] mU):=ub [(3,[(3,vq),(4,vl),(5,vl),(17,vl),(18,vi),(19,vi)])] (t1 af5) Tryz.func127
def e95:aF P 95 (U [.p,.g] I0):=ua (t4 ado agr agq agp) Tryz.func95
def af4:aF P 173 (U [.p,.b] pX):=ua (t1 Rb) Tryz.func173
def ago:aF P 128 (U [.p,.g] oG):=ub [(5,[(3,vq),(30,.agg #[]),(31,vi)])] (t3 Rb WV af4) Tryz.func128
def e96:aF P 96 (U [.g] wG):=ub [(8,[(2,.s .empty),(3,vi),(4,vq),(28,vl),(29,vi),(30,vi)])] (tk e70 (tk Rb (tk e91 (tk e92 (tk e93 (tk ago (tk WV t0))))))) Tryz.func96
def QD:aF P 136 (U [.n] mh):=ua t0 Tryz.func136
def e99:aF P 99 (U [.g,.n] pL):=ua (t1 QD) Tryz.func99
def e76:aF P 76 (U [.p] fx):=ua t0 Tryz.func76
def ac5:aF P 185 (U [.p,.n] oX):=ua t0 Tryz.func185
def WU:aF P 137 (U [.p,.n] jO):=ub [(6,[(4,.s .empty),(5,vi),(6,vi)])] (t1 ac5) Tryz.func137
def agi:aF P 138 (U [.s] wN):=ub [(3,[(2,vq),(3,vq),(14,.agg #[]),(15,vi)])] (t2 e60 Rc) Tryz.func138
def adq:aF P 100 (U [.p] nU):=ub [(3,[(2,vi),(3,vi),(9,vi),(10,vi)])] (t3 e76 WU agi) Tryz.func100
def acZ:aF P 215 (U [.p,.s] lv):=ua t0 Tryz.func215
def acV:aF P 235 (U [.g] uC):=ua t0 Tryz.func235
def acU:aF P 236 (U [.i .u32] rQ):=ua t0 Tryz.func236
def acT:aF P 237 (U [.i .u32,.s] uO):=ub [(3,[(4,.int .u32 0),(5,.int .u32 0),(10,vi),(11,vi)]),(7,[(4,.int .u32 0),(5,.int .u32 0),(6,vi),(10,vi),(11,vi),(12,vb),(13,vi),(14,.int .u32 0),(15,.s .empty),(16,vi),(17,.int .u8 0),(18,.int .u32 0),(19,.int .u32 0),(20,vi)])] t0 Tryz.func237
def afT:aF P 186 (U [.g] ra):=ua (tk Rb (tk e93 (tk adg (tk acZ (tk acV (tk acU (tk acT t0))))))) Tryz.func186
def adn:aF P 115 (U [] qw):=ua (t1 adg) Tryz.func115
def ac4:aF P 188 (U [.p] mA):=ua t0 Tryz.func188
def afS:aF P 187 (U [.p,.n,.s] fe):=ua (t3 adn ac5 ac4) Tryz.func187
def aax:aF P 139 (U [.p,.n,.n,.n,.s] kW):=uc [4] [(6,[(4,.s .empty),(10,vi),(11,vi)])] (t4 e76 QD afT afS) Tryz.func139
def adi:aF P 140 (U [.g,.n] oJ):=ua t0 Tryz.func140
def aaw:aF P 141 (U [.p] kX):=ub [(6,[(2,vi),(14,vl),(15,vi),(16,vi)])] (t1 ac4) Tryz.func141
def agE:aF P 101 (U [.g,.p,.n,.n,.s] qt):=ua (t3 aax adi aaw) Tryz.func101
def ac3:aF P 189 (U [.g] uL):=ua t0 Tryz.func189
def agh:aF P 142 (U [.g] vm):=ub [(5,[(2,.s .empty),(3,vi),(4,vq),(20,.agg #[]),(21,vi)])] (t3 Rb e93 ac3) Tryz.func142
def agD:aF P 102 (U [.p,.n,.g] um):=ua (t3 aax aaw agh) Tryz.func102
def agC:aF P 103 (U [.p] lM):=ua t0 Tryz.func103
def agB:aF P 104 (U [.p] jv):=ua t0 Tryz.func104
def e56:aF P 56 (U [.p] ij):=ua (tk e86 (tk e99 (tk adq (tk agE (tk agD (tk agC (tk agB t0))))))) Tryz.func56
def adk:aF P 130 (U [.p,.n] ju):=ua (t1 QD) Tryz.func130
def af2:aF P 175 (U [.n,.s] sQ):=ua (t3 Rb e93 acZ) Tryz.func175
def agn:aF P 131 (U [.p,.n,.s] cj):=ua (t5 adk QD aax aaw af2) Tryz.func131
def e97:aF P 97 (U [.p,.s] jh):=ua (t4 e56 adq adk agn) Tryz.func97
def af0:aF P 177 gK.u:=e0 t0 Tryz.func177 λa K w h=>by unfold gK.u at h;split at h;exact fi h;exact h.elim
def afE:aF P 216 (U [.l,.v] ma):=ub [(2,[(4,vi),(5,vb),(8,vl),(9,vi),(10,vi)])] (t1 af0) Tryz.func216
def WR:aF P 217 jo.u:=en [(1,[(8,vi),(9,vi)])] t0 Tryz.func217 λa K w h=>by unfold jo.u at h;split at h;exact fi h;exact h.elim
def K7:aF P 258 (U [.g] iA):=ua t0 Tryz.func258
def afj:aF P 259 (U [.g] lH):=ua (t1 K7) Tryz.func259
def afC:aF P 219 (U [.g] pQ):=ua (t2 K7 afj) Tryz.func219
def afB:aF P 220 (U [.g,.g] pR):=ua t0 Tryz.func220
def aeS:aF P 308 ef.u:=e0 t0 Tryz.func308 λa K w h=>by unfold ef.u at h;split at h;exact fi h;exact h.elim
def acO:aF P 260 (U [.p] og):=ua (t1 IU) Tryz.func260
def acN:aF P 262 (U [.p,.g] nV):=ua (t1 WS) Tryz.func262
def afi:aF P 261 eu.u:=e0 (t1 acN) Tryz.func261 λa K w h=>by unfold eu.u at h;split at h;exact fi h;exact h.elim
def afA:aF P 221 (U [.p,.g] mq):=ua (t6 M6 aau ac' IU acR acO) Tryz.func221
def afZ:aF P 178 lG.u:=e0 (t4 QC afC afB afA) Tryz.func178 λa K w h=>by unfold lG.u at h;split at h;exact fi h;exact h.elim
def aeU:aF P 306 (U [.p] sJ):=ua t0 Tryz.func306
def acQ:aF P 256 fB.u:=e0 (t1 aeU) Tryz.func256 λa K w h=>by unfold fB.u at h;split at h;exact fi h;exact h.elim
def afv:aF P 228 eg.u:=e0 t0 Tryz.func228 λa K w h=>by unfold eg.u at h;split at h;exact fi h;exact h.elim
def ae4:aF P 283 eX.u:=e0 (t1 aas) Tryz.func283 λa K w h=>by unfold eX.u at h;split at h;exact fi h;exact h.elim
def aeP:aF P 314 (U [.p,.n] ji):=ua (t1 aaq) Tryz.func314
def aeQ:aF P 313 eE.u:=e0 (t2 acN aeP) Tryz.func313 λa K w h=>by unfold eE.u at h;split at h;exact fi h;exact h.elim
def aeD:aF P 330 (U [.p,.n] fA):=uc [1] [(0,[(1,vi)]),(2,[(1,vi),(4,vi),(5,vi)])] (t1 acS) Tryz.func330
def aeJ:aF P 320 (U [.p,.n] qc):=ua (t2 ac1 aeD) Tryz.func320
def acJ:aF P 282 (U [.p,.n] mn):=ub [(4,[(4,vb),(12,vl),(13,vi),(14,vi)])] (t1 aeJ) Tryz.func282
def aeO:aF P 315 eB.u:=e0 (t1 acJ) Tryz.func315 λa K w h=>by unfold eB.u at h;split at h;exact fi h;exact h.elim
def aeK:aF P 319 cz.u:=e0 t0 Tryz.func319 λa K w h=>by unfold cz.u at h;split at h;exact fi h;exact h.elim
def aeI:aF P 321 cU.u:=e0 t0 Tryz.func321 λa K w h=>by unfold cU.u at h;split at h;exact fi h;exact h.elim
def aeT:aF P 307 (U [.p,.n] sK):=ub [(1,[])] (tk ae4 (tk aeQ (tk aeO (tk afi (tk afv (tk aeS (tk afH (tk aeK (tk afG (tk aeI t0)))))))))) Tryz.func307
def acP:aF P 257 fC.u:=e0 (t1 aeT) Tryz.func257 λa K w h=>by unfold fC.u at h;split at h;exact fi h;exact h.elim
def afD:aF P 218 (U [.p,.l,.l,.v] mJ):=ub [(2,[(8,vi),(14,vl),(15,vi),(16,vi)])] (t4 acP acQ afZ WR) Tryz.func218
def af1:aF P 176 (U [.p,.l,.v,.v] pn):=ub [(3,[(8,vl),(9,vl),(10,vi)])] (t3 afE WR afD) Tryz.func176
def agm:aF P 132 (U [.p,.l] rP):=ua (t1 af1) Tryz.func132
def afX:aF P 180 fZ.u:=e0 t0 Tryz.func180 λa K w h=>by unfold fZ.u at h;split at h;exact fi h;exact h.elim
def afz:aF P 222 (U [.l,.v] k9):=ub [(2,[(4,vi),(5,vb),(8,vl),(9,vi),(10,vi)])] (t1 afX) Tryz.func222
def WQ:aF P 225 (U [.g] sm):=ua t0 Tryz.func225
def WO:aF P 264 (U [.g] lQ):=ua t0 Tryz.func264
def afh:aF P 263 (U [.g] kC):=ub [(3,[(1,vq),(2,vb),(3,vi),(6,.agg #[]),(7,vi)])] (t2 WQ WO) Tryz.func263
def afg:aF P 265 (U [.g] ox):=ua (t1 K7) Tryz.func265
def acD:aF P 309 (U [.g] qq):=ua t0 Tryz.func309
def aff:aF P 266 (U [.g] jY):=ua (t2 K7 acD) Tryz.func266
def acY:aF P 224 (U [.g] fq):=ua (t6 WQ K7 afh WO afg aff) Tryz.func224
def ae5:aF P 281 (U [.p,.n,.g] ke):=ua (t2 IU ac0) Tryz.func281
def acW:aF P 233 (U [.p,.g] ky):=ua (t3 M6 QC ae5) Tryz.func233
def acM:aF P 267 (U [.g,.g] uA):=ua t0 Tryz.func267
def afe:aF P 268 (U [.p,.g] yT):=ua (t1 QC) Tryz.func268
def acL:aF P 269 (U [.p] om):=ua (t1 WT) Tryz.func269
def aeL:aF P 318 (U [.g,.g] tR):=ua t0 Tryz.func318
def Tr:aF P 278 (U [.g,.g] q9):=ua (t1 aeL) Tryz.func278
def aeR:aF P 310 (U [.g,.g] ye):=ua (t1 Tr) Tryz.func310
def acX:aF P 231 (U [.g,.g] pJ):=ua (tk Tr (tx ae7 t0)) Tryz.func231
def Tt:aF P 232 (U [.g,.g] pK):=ua (tx ae6 t0) Tryz.func232
def aeE:aF P 329 (U [.g,.g] iU):=ua (t1 Tt) Tryz.func329
def aam:aF P 311 (U [.g,.b] dA):=ua (t2 acX aeE) Tryz.func311
def afd:aF P 270 (U [.g,.g] fX):=ua (t4 K7 acD aeR aam) Tryz.func270
def acC:aF P 312 (U [.l] yd):=ub [(3,[(2,vq),(3,vb),(4,vq),(8,vl),(9,vi),(10,vi)])] (t1 Tt) Tryz.func312
def afc:aF P 271 (U [.g,.g,.b] np):=ua (t4 Tt Tr aam acC) Tryz.func271
def afb:aF P 272 (U [.g,.g,.b] me):=ua (t4 Tt Tr aam acC) Tryz.func272
def acK:aF P 273 (U [.p,.g,.g,.b] im):=ua (tk M6 (tk aau (tk ac9 (tk WT (tk ac8 (tk aat (tk aas (tk IU (tk acO t0))))))))) Tryz.func273
def afx:aF P 226 (U [.p,.g] pA):=ua (tk QB (tk acY (tk WQ (tk acW (tk WO (tk acM (tk afe (tk acL (tk afd (tk afc (tk afb (tk acK t0)))))))))))) Tryz.func226
def ae3:aF P 284 (U [.p,.n,.g] lV):=ua (t2 IU aap) Tryz.func284
def aft:aF P 234 (U [.p,.g,.n] da):=ua (t6 M6 aat QB IU acJ ae3) Tryz.func234
def ac6:aF P 184 dX.u:=e0 (t5 QC acX Tt acW aft) Tryz.func184 λa K w h=>by unfold dX.u at h;split at h;exact fi h;exact h.elim
def aeN:aF P 316 (U [.g,.g] gn):=ua (t1 K7) Tryz.func316
def afa:aF P 274 (U [.p,.g] yW):=ua (t3 QB WO aeN) Tryz.func274
def ae':aF P 275 (U [.g,.g] oB):=ua (t2 K7 Tr) Tryz.func275
def ae9:aF P 276 (U [.p,.g] nh):=ua (t1 QC) Tryz.func276
def afw:aF P 227 (U [.p,.g] rM):=ua (tk QB (tk ac6 (tk acM (tk acL (tk acK (tk afa (tk ae' (tk ae9 t0)))))))) Tryz.func227
def afW:aF P 181 nO.u:=e0 (t4 acY WQ afx afw) Tryz.func181 λa K w h=>by unfold nO.u at h;split at h;exact fi h;exact h.elim
def afy:aF P 223 (U [.p,.l,.l,.v] l9):=ub [(2,[(8,vi),(14,vl),(15,vi),(16,vi)])] (t4 acP acQ WR afW) Tryz.func223
def afY:aF P 179 (U [.p,.l,.v,.v] oO):=ub [(3,[(8,vl),(9,vl),(10,vi)])] (t3 WR afz afy) Tryz.func179
def agl:aF P 133 (U [.p,.l] qM):=ua (t1 afY) Tryz.func133
def afV:aF P 182 eo.u:=e0 (t1 IU) Tryz.func182 λa K w h=>by unfold eo.u at h;split at h;exact fi h;exact h.elim
def aeM:aF P 317 (U [.p] tD):=ua t0 Tryz.func317
def ae8:aF P 277 (U [.p] ng):=ua (t1 aeM) Tryz.func277
def afu:aF P 230 fh.u:=e0 (t2 QB ae8) Tryz.func230 λa K w h=>by unfold fh.u at h;split at h;exact fi h;exact h.elim
def afU:aF P 183 tj.u:=e0 t0 Tryz.func183 λa K w h=>by unfold tj.u at h;split at h;exact fi h;exact h.elim
def agj:aF P 135 (U [.p] lj):=ua (t1 ac7) Tryz.func135
def agk:aF P 134 uj.u:=eHT mixed afV afU ac6 afu
def e98:aF P 98 (U [.p,.g] wv):=ua (t5 adp agm agl agk agj) Tryz.func98
def e55:aF P 55 (U [.p,.g] mr):=ua (t5 e94 e95 e96 e97 e98) Tryz.func55
def e27:aF P 27 (U [.p,.s] my):=ua (t3 e33 e54 e55) Tryz.func27
def agA:aF P 105 (U [.n] tT):=ua t0 Tryz.func105
def afr:aF P 239 (U [.s] tY):=ua (t2 acU acT) Tryz.func239
def ae2:aF P 285 (U [.s,.i .u8] na):=uc [0] [(1,[(0,.s .empty),(4,.s .empty)])] t0 Tryz.func285
def ae1:aF P 286 (U [.s,.i .u8] mI):=uc [0] [(1,[(0,.s .empty),(4,.s .empty)])] t0 Tryz.func286
def afq:aF P 240 (U [.s,.s] gV):=ua (t2 ae2 ae1) Tryz.func240
def aar:aF P 195 (U [.s] lC):=ua (t6 e60 Rc aaB acV afr afq) Tryz.func195
def afs:aF P 238 (U [.s] xr):=ua (t4 e60 Rc e69 ac3) Tryz.func238
def afR:aF P 190 (U [.p,.n] o8):=ua (t3 WU aar afs) Tryz.func190
def agf:aF P 143 (U [.p] rN):=ua (t1 afR) Tryz.func143
def ac2:aF P 194 (U [.p,.n,.n,.n,.n] iO):=ub [(5,[(10,.s .empty),(11,vb),(12,vq),(48,vi),(49,vi)])] (t6 e76 QD WU aar afN afM) Tryz.func194
def age:aF P 145 (U [.g,.p,.n,.n,.n] qu):=ua (t2 adi ac2) Tryz.func145
def agz:aF P 106 (U [.p,.g] wJ):=ua (t4 e85 agf adh age) Tryz.func106
def agd:aF P 146 (U [.p,.n,.n] rJ):=ua (t1 e76) Tryz.func146
def agc:aF P 147 (U [.p,.n,.n,.n] fM):=ua (tk e60 (tk Rc (tk M7 (tk QD (tk WU (tk ac2 (tk aar t0))))))) Tryz.func147
def agy:aF P 107 (U [.p,.n,.n,.n] kD):=ub [(7,[(8,vp),(9,vl),(10,vi),(11,vq),(12,vl)])] (t2 agd agc) Tryz.func107
def e58:aF P 58 (U [.p] mu):=ub [(14,[(2,vp),(3,vi),(6,vp),(10,vq),(59,vl),(60,vi),(61,vi)])] (tk e33 (tk e76 (tk e94 (tk e98 (tk agA (tk agz (tk agy t0))))))) Tryz.func58
def e75:aF P 75 (U [.n] te):=ub [(3,[(2,vp),(3,vq),(8,vi),(9,vi)])] (t1 adn) Tryz.func75
def e41:aF P 41 (U [.n] qa):=ua (t3 e58 e75 e76) Tryz.func41
def e78:aF P 78 (U [.n,.n] bF):=ub [(5,[(4,.s .empty),(5,vi),(6,vu),(7,.s .empty),(8,vi)])] t0 Tryz.func78
def WW:aF P 117 (U [.g,.n] fL):=ua t0 Tryz.func117
def e81:aF P 81 (U [.g] dg):=ub [(3,[(1,vq),(2,.s .empty),(3,.s .empty),(4,vi)]),(7,[(1,vq),(2,.s .empty),(3,.s .empty),(4,vi),(5,vi),(6,vi)])] (t1 WW) Tryz.func81
def e79:aF P 79 (U [.g] kQ):=ua (t2 e78 e81) Tryz.func79
def e80:aF P 80 (U [.g] kO):=ua (t2 e78 e81) Tryz.func80
def adf:aF P 149 (U [.g] cY):=ua t0 Tryz.func149
def ade:aF P 150 (U [.g] bT):=ua t0 Tryz.func150
def aay:aF P 116 (U [.n,.l,.l,.l] cx):=ub [(4,[(8,vb),(36,vl),(37,vi),(38,vi)]),(10,[(8,vb),(49,vl),(50,vi),(51,vi)]),(16,[(8,vb),(59,vl),(60,vi),(61,vi)])] (t2 adf ade) Tryz.func116
def e77:aF P 77 (U [.n,.l,.l,.l] gP):=ub [(5,[(8,.s .empty),(9,.s .empty),(28,vl),(29,vi),(30,vi)]),(11,[(8,.s .empty),(9,.s .empty),(44,vl),(45,vi),(46,vi)]),(17,[(8,.s .empty),(9,.s .empty),(60,vl),(61,vi),(62,vi)])] (t4 e78 e79 e80 aay) Tryz.func77
def e42:aF P 42 (U [.n] iF):=ua (t1 e77) Tryz.func42
def e82:aF P 82 (U [.b] nQ):=ua t0 Tryz.func82
def e43:aF P 43 (U [.g] kM):=ub [(5,[(2,.s .empty),(3,.s .empty),(23,vl),(24,vi),(25,vi)]),(12,[(2,.s .empty),(3,.s .empty),(43,vl),(44,vi),(45,vi)]),(19,[(2,.s .empty),(3,.s .empty),(63,vl),(64,vi),(65,vi)])] (t5 e78 e79 e80 e81 e82) Tryz.func43
def e14:aF P 14 (U [] iE):=ua (t6 e20 e26 e27 e41 e42 e43) Tryz.func14
def e15:aF P 15 (U [.l] oR):=ub [(3,[(2,vb),(3,vi),(6,vl),(7,vi),(8,vi)])] t0 Tryz.func15
def e16:aF P 16 (U [] oP):=ua (t1 e41) Tryz.func16
def e31:aF P 31 (U [.p,.l,.l,.n,.n] cX):=ub [(4,[(10,vb),(48,vi),(49,vi)]),(10,[(10,vb),(66,vi),(67,vi)])] t0 Tryz.func31
def e52:aF P 52 (U [.g,.n] bS):=ua t0 Tryz.func52
def e88:aF P 88 (U [.g,.g] cL):=ua t0 Tryz.func88
def e53:aF P 53 (U [.g,.g] jq):=ua (t1 e88) Tryz.func53
def e25:aF P 25 (U [.p,.n] ar):=ub [(3,[(4,vq),(5,vq),(21,vl),(22,vi),(23,vi)])] (t2 e52 e53) Tryz.func25
def e84:aF P 84 (U [.p] gQ):=ub [(3,[(2,vl),(3,vl),(9,vi),(10,vi)])] (t1 e25) Tryz.func84
def e45:aF P 45 (U [.p,.l,.l,.n,.n] kk):=ua (t2 e31 e84) Tryz.func45
def e18:aF P 18 (U [.p,.p] mK):=ua (t6 e20 e21 e22 e26 e30 e45) Tryz.func18
def e46:aF P 46 (U [.p] pW):=ua t0 Tryz.func46
def e19:aF P 19 (U [.p] iH):=ua (t1 e46) Tryz.func19
def e28:aF P 28 (U [.p] pZ):=ua (t1 e56) Tryz.func28
def e57:aF P 57 (U [.p,.i .u64,.n,.n] mB):=uc [3] [(3,[(3,vi),(18,vl),(19,vi),(20,vi)])] t0 Tryz.func57
def e29:aF P 29 (U [.p,.i .u64,.n,.n] pz):=ua (t2 e57 e58) Tryz.func29
def e74:aF P 74 (U [.p,.n] nW):=ua t0 Tryz.func74
def e37:aF P 37 (U [.p,.n] qH):=ua (t1 e74) Tryz.func37
def e40:aF P 40 (U [.g] kq):=ua t0 Tryz.func40
def adb:aF P 151 (U [.g] dP):=ua t0 Tryz.func151
def ada:aF P 152 (U [.g] bg):=ua t0 Tryz.func152
def agw:aF P 118 (U [.g] gF):=ub [(4,[(1,vq),(2,vb),(16,vl),(17,vi),(18,vi)]),(10,[(1,vq),(2,vb),(32,vl),(33,vi),(34,vi)])] (t4 adf ade adb ada) Tryz.func118
def aav:aF P 153 (U [.p] gU):=ua t0 Tryz.func153
def afL:aF P 202 (U [.p] cK):=ub [(1,[(7,vl),(8,vi),(9,vi)])] t0 Tryz.func202
def agb:aF P 154 (U [.p,.n] kj):=ua (t1 afL) Tryz.func154
def aga:aF P 155 (U [.l] lq):=ub [(3,[(2,vl),(3,vl),(6,vl),(7,vi),(8,vi)])] t0 Tryz.func155
def af':aF P 156 (U [.l] kI):=ub [(3,[(2,vl),(3,vl),(6,vl),(7,vi),(8,vi)])] t0 Tryz.func156
def afK:aF P 203 (U [.g] mL):=ua t0 Tryz.func203
def acI:aF P 297 (U [.g] jX):=ub [(3,[(1,vq),(2,.s .empty),(3,vl),(4,vi)]),(7,[(1,vq),(2,.s .empty),(3,vl),(4,vi),(5,vi),(6,vi)]),(16,[(2,.s .empty),(8,.s .empty),(46,vl),(47,vi),(48,vi)])] (t1 WW) Tryz.func297
def aeH:aF P 326 (U [.n,.n] mE):=ua t0 Tryz.func326
def ae0:aF P 294 (U [.g] bq):=ua (t2 acI aeH) Tryz.func294
def aan:aF P 295 (U [.p,.g] fj):=ub [(2,[(3,vq),(4,vi),(10,vl),(11,vi),(12,vi)])] t0 Tryz.func295
def aeZ:aF P 296 (U [.g,.g] gR):=ua t0 Tryz.func296
def afp:aF P 246 (U [.p,.g] km):=ua (t3 ae0 aan aeZ) Tryz.func246
def Ts:aF P 248 (U [.g] gG):=ua (t1 e52) Tryz.func248
def aeY:aF P 298 (U [.g] bJ):=ua (t2 e52 Ts) Tryz.func298
def aao:aF P 247 (U [.g] aV):=ua (t4 e52 Ts acI aeY) Tryz.func247
def e89:aF P 89 (U [.g,.g] gH):=ub [(2,[(2,vq),(3,vq),(4,vb),(5,vi)])] (t1 WW) Tryz.func89
def acH:aF P 299 (U [.p,.g] gS):=ub [(2,[(3,vq),(4,vi),(10,vl),(11,vi),(12,vi)])] t0 Tryz.func299
def acG:aF P 300 (U [.g,.g] kP):=ua t0 Tryz.func300
def aeX:aF P 301 (U [.p,.g,.n] gu):=ua (t3 e25 aav aan) Tryz.func301
def acF:aF P 302 (U [.p,.g,.g,.n] gT):=ua t0 Tryz.func302
def afo:aF P 249 (U [.p,.g] az):=ua (tk e52 (tk e89 (tk aao (tk Ts (tk acH (tk acG (tk aeX (tk acF t0)))))))) Tryz.func249
def aeW:aF P 303 (U [.g,.g] kN):=ua (t1 e89) Tryz.func303
def aeG:aF P 327 (U [] nS):=ua t0 Tryz.func327
def aeC:aF P 334 (U [.g,.n] oS):=ua t0 Tryz.func334
def aeF:aF P 328 (U [.g,.g] fK):=ub [(6,[(2,vq),(3,vq),(4,vq),(5,vb),(6,vq),(7,vi),(8,vi)])] (t3 e89 WW aeC) Tryz.func328
def acE:aF P 304 (U [.g,.b] dw):=ua (t3 e88 aeG aeF) Tryz.func304
def aeV:aF P 305 (U [.g,.b,.g,.b] bX):=ua (t3 e88 e89 acE) Tryz.func305
def afn:aF P 250 (U [.p,.g] bQ):=ua (tk e25 (tk e52 (tk aao (tk Ts (tk aan (tk acH (tk acG (tk acF (tk aeW (tk acE (tk aeV t0))))))))))) Tryz.func250
def afJ:aF P 204 (U [.p,.g] iW):=ua (t5 afp aao Ts afo afn) Tryz.func204
def af9:aF P 157 (U [.p,.l] cr):=uc [0] [(3,[(0,vp),(4,vl),(5,vp),(6,vl),(7,vi)]),(5,[(0,vp),(4,vl),(5,vp),(6,vl),(7,vi),(8,vi)]),(15,[(0,vp),(4,vl),(5,vp),(6,vl),(7,vi),(8,vi),(9,vi),(10,vi),(11,vp),(12,vi)]),(21,[(0,vp),(4,vl),(5,vp),(6,vl),(7,vi),(8,vi),(9,vi),(10,vi),(11,vp),(13,vi)])] (t3 aav afK afJ) Tryz.func157
def agv:aF P 119 (U [.p,.g] iV):=ua (t6 adb aav agb aga af' af9) Tryz.func119
def af8:aF P 158 (U [.l,.l] ln):=ub [(3,[(4,vl),(5,vl),(10,vl),(11,vi),(12,vi)]),(6,[(4,vl),(5,vl),(7,vq),(10,vl),(11,vi),(12,vi),(16,vl),(17,vi),(18,vi)])] t0 Tryz.func158
def af7:aF P 159 (U [.l,.l] kH):=ub [(3,[(4,vl),(5,vl),(10,vl),(11,vi),(12,vi)]),(6,[(4,vl),(5,vl),(7,vq),(10,vl),(11,vi),(12,vi),(16,vl),(17,vi),(18,vi)])] t0 Tryz.func159
def af6:aF P 160 (U [.l,.g] bK):=ub [(3,[(3,vq),(4,vl),(5,vl),(10,vi),(11,vi)])] t0 Tryz.func160
def agu:aF P 120 (U [.l,.l,.g] nr):=ua (t4 ada af8 af7 af6) Tryz.func120
def e83:aF P 83 (U [.p,.g] nq):=ua (t6 e40 e77 e84 agw agv agu) Tryz.func83
def e44:aF P 44 (U [.p,.s] oQ):=ua (t4 e33 e40 e42 e83) Tryz.func44
def e17:aF P 17 (U [.p,.g] aM):=ua (tk e18 (tk e19 (tk e27 (tk e28 (tk e29 (tk e37 (tk e42 (tk e44 t0)))))))) Tryz.func17
def e87:aF P 87 (U [.l] iG):=ub [(3,[(2,vq),(3,vb),(4,vq),(10,vl),(11,vi),(12,vi)])] (t1 e88) Tryz.func87
def e50:aF P 50 (U [.l,.n] dQ):=ub [(6,[(4,vb),(5,vl),(6,vl),(7,vl),(8,vl),(19,vl),(20,vi),(21,vi)])] (t1 e87) Tryz.func50
def e23:aF P 23 (U [.l,.n] nR):=ua (t1 e50) Tryz.func23
def e51:aF P 51 (U [.g] dm):=ua (t2 e88 e89) Tryz.func51
def e24:aF P 24 (U [.g] mg):=ua (t1 e51) Tryz.func24
end Go.Proofs.YtibneekkkdnmgaaGreatDoor
namespace Go.Proofs.YtibneekkkdnmgaaGreatDoor
open Go.ChangeShapes Go.WideShapes Go.ChangeAt Go.RowKit Go.Den Go.Sep Go.Prog Go.Up
def adj(b j:Nat):(ad b 0).add j=⟨b,j,none⟩:=by
 unfold Addr.add;split
 ·rename_i h;rw[h]
 ·simp
def aex{W:World}(h:laidMetH Tryz.prog Rows.coreServesRow.laid W):qF W:=by
 rw[MakeChecks.laidMetH_plain _ _ _ (by kernel_rfl)] at h;obtain⟨ps,⟨g0,t0,cs0,f0,p0,q0,-,-,-,-,⟨g,t,cs,fuel,p,q,hg,ht,hv,hd,⟨g2,t2,Fh,ag8,p2,q2,KL,MO,Wa,UL,-,-⟩,-⟩,-⟩,-,-⟩:=h;obtain rfl:=bE.inj ((show Tryz.prog.globalNamed "bondstore/wide.Most"=some 0 by kernel_rfl).symm.trans hg);obtain rfl:=bE.inj ((show(Tryz.prog.globals[0]?).map (·.type)=some 45 by kernel_rfl).symm.trans ht);obtain rfl:=bE.inj ((show Tryz.prog.globalNamed "bondstore/hold.told"=some 1 by kernel_rfl).symm.trans KL);obtain rfl:=bE.inj ((show(Tryz.prog.globals[1]?).map (·.type)=some 374 by kernel_rfl).symm.trans MO);have c38:Tryz.prog.cellsOf 27=1:=by kernel_rfl
 have c3:Tryz.prog.cellsOf 81=1:=by kernel_rfl
 have c40:Tryz.prog.cellsOf 45=2:=by kernel_rfl
 have agK:Tryz.prog.cellsOf 374=5:=by kernel_rfl
 refine⟨?_,?_⟩
 ·obtain⟨y0,y1,n,ex,hl,k0,k1⟩:=trod_struct2 Tryz.underlying45 hd;rw[c40] at hl;obtain⟨l⟩:=cs
  match l,hl with
  |[a,b],_=>
   have e3:=(DataW.agg.inj (Prod.mk.inj ex).1);simp only[List.cons.injEq,and_true] at e3;rw[c38] at k0 k1;obtain⟨z0,a0,b0,_⟩:=DataW.trod_int Tryz.underlying27 k0;obtain⟨z1,a1,b1,_⟩:=DataW.trod_int Tryz.underlying27 k1;have hc:∀i,W.cell? ⟨0,i,none⟩=[a,b][i]?:=λi=>by rw[World.var?_cell hg hv i];simp
   simp at a0 a1;subst b0 b1 a0 a1;simp only[DataW.lit.injEq,Lit.int.injEq,true_and] at e3;obtain⟨rfl,rfl⟩:=e3;intro j v hj;rw[adj,hc];exact hj
 ·obtain⟨xs,m,_,ex,hlen,hl,hel⟩:=DataW.trod_array Tryz.underlying374 UL;rw[agK] at hlen;obtain⟨l⟩:=Fh
  match l,hlen with
  |[a,b,c,d,e],_=>
   match xs,hl with
   |[x0,x1,x2,x3,x4],_=>
    have e3:=(DataW.agg.inj (Prod.mk.inj ex).1);simp only[cN,ud,List.cons.injEq,and_true] at e3;have k0:=hel 0 (by omega);have k1:=hel 1 (by omega);have k2:=hel 2 (by omega);have k3:=hel 3 (by omega);have k4:=hel 4 (by omega);rw[c3] at k0 k1 k2 k3 k4;obtain⟨z0,a0,b0,_⟩:=DataW.trod_int Tryz.underlying81 k0;obtain⟨z1,a1,b1,_⟩:=DataW.trod_int Tryz.underlying81 k1;obtain⟨z2,a2,b2,_⟩:=DataW.trod_int Tryz.underlying81 k2;obtain⟨z3,a3,b3,_⟩:=DataW.trod_int Tryz.underlying81 k3;obtain⟨z4,a4,b4,_⟩:=DataW.trod_int Tryz.underlying81 k4;have hc:∀i,W.cell? ⟨1,i,none⟩=[a,b,c,d,e][i]?:=λi=>by rw[World.var?_cell KL Wa i];simp
    simp at a0 a1 a2 a3 a4;subst b0 b1 b2 b3 b4 a0 a1 a2 a3 a4;simp only[DataW.lit.injEq,Lit.int.injEq,true_and] at e3;obtain⟨rfl,rfl,rfl,rfl,rfl⟩:=e3;intro j v hj;rw[adj,hc];exact hj
end Go.Proofs.YtibneekkkdnmgaaGreatDoor
namespace Go.Proofs.YtibneekkkdnmgaaGreatDoor
open Go.Sep Go.Den Go.RowKit Go.Prog Go.Up
def e5:aF P 5 (U [.l] ko):=ub [(7,[(2,vb),(3,vp),(18,vl),(19,vi),(20,vi)]),(14,[(2,vb),(3,vp),(7,vl),(8,vq),(18,vl),(19,vi),(20,vi),(38,vl),(39,vi),(40,vi)]),(19,[(2,vb),(3,vp),(7,vl),(8,vq),(18,vl),(19,vi),(20,vi),(66,vl),(67,vi),(68,vi)])] (tk e14 (tk e15 (tk e16 (tk e17 (tk e20 (tk e21 (tk e22 (tk e23 (tk e24 (tk e25 t0)))))))))) Tryz.func5
def Lb{W:World}{b0:OA}{n0 c0:Nat}{xs0:LV}(G:qF W)(Wf:Ro W b0 n0 6 xs0)(he0:Uo tsK n0 xs0)(Yf:n0<=maxLen):
 U [.l] ko [.l b0 n0 c0] (λv w'=>v=.bool true/\Below W.heap.size W w') W:=by
 obtain⟨l0,rfl,h0,k0⟩:=tss Wf he0 Yf;exact NC (K:=λv w'=>v=.bool true/\Below W.heap.size W w') (W:=W) (L:=[]) G h0 k0 (λw hs=>⟨rfl,hs.1⟩) W (St.start W)
end Go.Proofs.YtibneekkkdnmgaaGreatDoor
