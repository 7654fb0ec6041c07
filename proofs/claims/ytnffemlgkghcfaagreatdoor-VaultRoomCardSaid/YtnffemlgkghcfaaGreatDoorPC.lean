/- Part of the proof: see the last text. -/
import Derived.Test.YtnffemlgkghcfaaGreatDoorPB
import Derived.Test.YtnffemlgkghcfaaGreatDoorPA
import Derived.Laws.StructEq
set_option linter.all false
set_option maxRecDepth 100000
set_option synthInstance.maxSize 100000
open Array renaming ext'→afc
open Bool renaming eq_iff_iff→adX,and_eq_true→aet,false_eq_true→ad0,false_ne_true→ad4
open Decidable renaming not_not→adO
open Go.IntKind renaming i64→adx
open Int renaming toNat_natCast→adB,le_refl→ae5
open List renaming getElem?_eq_getElem→adA,length_append→adD,length_take→adF,append_assoc→adI,append_nil→adV,length_cons→adW,flatMap_cons→aeo,take_succ_eq_append_getElem→aeu,flatMap_append→aex,getElem?_eq_none→aeB,getElem?_drop→aeQ,ext_getElem?→aeV,take_zero→ae0,getElem?_take→ae1,cons_append→aeN,map_cons→aeb,map_nil→afa,getElem?_eq_some_iff→adC,replicate→adQ,getElem?_set→ad7,map_append→ad8,getElem?_map→aen,getElem?_range→ae3,range→ae7,map_map→afb,mem_of_getElem?→ad3,mem_or_eq_of_mem_set→aeq,length_set→aeF,length_replicate→aeH,set_cons_succ→aeP,getElem?_of_mem→aeT,take_length→adN,Perm→ad2,perm_middle→aeM,length_drop→adM,take_add_one→adT,take_append_drop→ad5,length_reverse→aew,pairwise_iff_getElem→aeG,perm_append_comm→adJ,getElem?_append_left→adY,drop_eq_getElem_cons→aef,drop_of_length_le→aeh,length_singleton→aeZ,Sublist→adP,mem_map→aek,mem_cons→aeS,nil_append→aed,set_set→aeO,reverse_cons→ae6,mem_append→aee,mem_of_find?_eq_some→aey,map_congr_left→aeR,find?_eq_none→aeW,getElem_mem→adZ,length_map→ad1,getElem?_cons_succ→adR,Mem→aep,getElem?_append_right→aea
open Nat renaming zero_add→adE,zero_le→adK,eq_of_beq_eq_true→ad',beq→aeX,mod_eq_of_lt→aej,mul_le_mul_right→aem,add_mul→aeU,mul_comm→ae',pow_le_pow_right→aer,le_refl→adG,add_zero→aev,sub_self→aeY,mul_one→ae8
open Option renaming some→adU,getD_some→aec,map_some→ael,isSome_some→ad9,isSome_none→aeg,getD_none→aes,map→afd
namespace Go.Up
open Go.Sep Go.Den Go.RowKit Go.Prog Go.Md
def m9(a:aS):Prop:=(0≤a.aJ∧a.aJ≤4294967295)∧(0≤a.code∧a.code≤65535)∧0≤a.flags∧a.flags≤65535
instance(a:aS):Decidable (m9 a):=by unfold m9;infer_instance
def kN(t:Move):Prop:=(0≤t.timeout∧t.timeout≤4294967295)∧(0≤t.aJ∧t.aJ≤4294967295)∧(0≤t.code∧t.code≤65535)∧0≤t.flags∧t.flags≤65535
instance(t:Move):Decidable (kN t):=by unfold kN;infer_instance
def jv(a:aS):List UInt8:=[a.id,a.dp,a.dq,a.cp,a.cq].flatMap nb++le .i64 4 a.aJ++le .i64 2 a.code++le .i64 2 a.flags++le .i64 8 a.af
def nj(t:Move):List UInt8:=[t.id,t.aH,t.ar,t.aC,t.pending].flatMap nb++le .i64 4 t.timeout++le .i64 4 t.aJ++le .i64 2 t.code++le .i64 2 t.flags++le .i64 8 t.af++le .i64 8 t.born
def sr:∀l:List Nat,(l.flatMap nb).length=16* l.length
 |[]=>rfl
 |x::l=>by rw[aeo,adD,ra,sr l,adW];omega
def oX(a:aS):(jv a).length=96:=by simp only[jv,adD,sr,aB];rfl
def oO(t:Move):(nj t).length=108:=by simp only[nj,adD,sr,aB];rfl
section
variable {W:World} {L:LH} {K:VK} {a b:aS} {t u:Move} {p:Nat} {l:List UInt8} {q:List UInt8→LH}
def JM(h:T W L (K (.bool (decide (m9 a))))):T W L (fS (ak a) K):=by
 unfold fS fS.j1 fS.j2 fS.j3
 repeat' first|apply ww|apply wm;intro _|apply wb|with_reducible refine az (fun h1=>?_) (fun h1=>?_)|fail
 all_goals (refine T.fin (T.dp h) ?_;congr 1;(rw[adX];(try simp only[bz,false_iff,true_iff] at *)<;>(try simp only[m9,adO] at *)<;>omega))
def IH(h:T W L (K (.bool (decide (kN t))))):T W L (dc (ai t) K):=by
 unfold dc dc.j1 dc.j2 dc.j3 dc.j4 dc.j5
 repeat' first|apply ww|apply wm;intro _|apply wb|with_reducible refine az (fun h1=>?_) (fun h1=>?_)|fail
 all_goals (refine T.fin (T.dp h) ?_;congr 1;(rw[adX];(try simp only[bz,false_iff,true_iff] at *)<;>(try simp only[kN,adO] at *)<;>omega))
def XL(x:List Nat)(i:Nat)(y:Nat)(h:x[i]?=some y):((x.flatMap nm).drop (i* 2)).take 2=nm y:=by
 apply aeV;intro j;rw[ae1];split
 ·rename_i hj;rw[aeQ];cases hv:(nm y)[j]? with
  |none=>have:=List.getElem?_eq_none_iff.1 hv;rw[tI] at this;omega
  |some v=>exact ov tI x i y h j v hv
 ·exact(aeB (by rw[tI];omega)).symm
def Od[i:Lc (buf p) L l q](hg:m9 a)(hl:l.length<549755813888)(h:T W (q (l++jv a)) (K (.tuple ⟨[]⟩))):T W L (mq (some ⟨p,0,none⟩) (ak a) K):=by
 unfold mq mq.j1
 repeat' first|apply ww|apply wm;intro _|apply wb|with_reducible refine JM ?_|fail
 rw[decide_eq_true hg,Bool.not_true,cA]
 repeat' first|apply ww|apply wm;intro _|apply wb
 rename_i r;intro w hs;refine⟨fun vs w=>∃i:Nat,i≤5∧vs=[.p (some (ad r 0)),.agg ⟨[a.id,a.dp,a.dq,a.cp,a.cq].flatMap nm⟩,.i (i:Int)]∧St W w (Sep.pt r (ak a)::q (l++([a.id,a.dp,a.dq,a.cp,a.cq].take i).flatMap nb)),
  fun vs _=>match vs with|[_,_,.int _ j]=>5-j.toNat|_=>0,⟨0,adK _,rfl,by rw[ae0,List.flatMap_nil,adV,i.same];exact hs⟩,?_⟩
 rintro a1 cs8 n1 w2 ⟨j,hj,e,hs⟩;cases e
 refine T.at ?_ hs;have hq:=i.next;have hlen:(l++([a.id,a.dp,a.dq,a.cp,a.cq].take j).flatMap nb).length<1099511627776:=by rw[adD,sr,adF];simp;omega
 refine az (fun h1=>?_) (fun h1=>?_)
 ·have a8:j<5:=by have:=of_decide_eq_true h1;omega
  have hx:[a.id,a.dp,a.dq,a.cp,a.cq][j]?=some ([a.id,a.dp,a.dq,a.cp,a.cq][j]'(by simpa using a8)):=adA _;have e5:adx.wrap ((j:Int)+1)=((j+1:Nat):Int):=by rw[ah (by omega)];omega
  have et:([a.id,a.dp,a.dq,a.cp,a.cq].take j).flatMap nb++nb ([a.id,a.dp,a.dq,a.cp,a.cq][j]'(by simpa using a8))=([a.id,a.dp,a.dq,a.cp,a.cq].take (j+1)).flatMap nb:=by
   rw[aeu (by simpa using a8),aex];simp
  rw[adB,XL _ _ _ hx,e5]
  repeat' first|apply ww|apply wm;intro _|apply wb|with_reducible first|refine c9 (by omega) ?_|refine Eg hlen ?_|fail
  rw[adI,et];refine T.drop fun w3 h3=>⟨⟨j+1,a8,rfl,?_⟩,by show 5-((j+1:Nat):Int).toNat<5-(j:Int).toNat;omega⟩;exact h3
 ·have he:j=5:=by have:=of_decide_eq_false h1;omega
  subst he;simp only[ft,adE];have e1:∀m:List UInt8,(l++m).length=l.length+m.length:=fun m=>adD;have e2:(([a.id,a.dp,a.dq,a.cp,a.cq].take 5).flatMap nb).length=80:=by rw[sr];rfl
  repeat' first|apply ww|apply wm;intro _|apply wb|with_reducible first|refine JN (by simp only[adD,aB,e2];omega) ?_|refine zG (by simp only[adD,aB,e2];omega) ?_|refine uy (by simp only[adD,aB,e2];omega) ?_|fail
  have e3:l++jv a=l++([a.id,a.dp,a.dq,a.cp,a.cq].take 5).flatMap nb++le .i64 4 a.aJ++le .i64 2 a.code++le .i64 2 a.flags++le .i64 8 a.af:=by
   unfold jv;simp only[adI];rfl
  rw[←e3];exact T.dp h
def G'[i:Lc (buf p) L l q](hg:kN t)(hl:l.length<549755813888)(h:T W (q (l++nj t)) (K (.tuple ⟨[]⟩))):T W L (lv (some ⟨p,0,none⟩) (ai t) K):=by
 unfold lv lv.j1
 repeat' first|apply ww|apply wm;intro _|apply wb|with_reducible refine IH ?_|fail
 rw[decide_eq_true hg,Bool.not_true,cA]
 repeat' first|apply ww|apply wm;intro _|apply wb
 rename_i r;intro w hs;refine⟨fun vs w=>∃i:Nat,i≤5∧vs=[.p (some (ad r 0)),.agg ⟨[t.id,t.aH,t.ar,t.aC,t.pending].flatMap nm⟩,.i (i:Int)]∧St W w (Sep.pt r (ai t)::q (l++([t.id,t.aH,t.ar,t.aC,t.pending].take i).flatMap nb)),
  fun vs _=>match vs with|[_,_,.int _ j]=>5-j.toNat|_=>0,⟨0,adK _,rfl,by rw[ae0,List.flatMap_nil,adV,i.same];exact hs⟩,?_⟩
 rintro a1 cs8 n1 w2 ⟨j,hj,e,hs⟩;cases e
 refine T.at ?_ hs;have hq:=i.next;have hlen:(l++([t.id,t.aH,t.ar,t.aC,t.pending].take j).flatMap nb).length<1099511627776:=by rw[adD,sr,adF];simp;omega
 refine az (fun h1=>?_) (fun h1=>?_)
 ·have a8:j<5:=by have:=of_decide_eq_true h1;omega
  have hx:[t.id,t.aH,t.ar,t.aC,t.pending][j]?=some ([t.id,t.aH,t.ar,t.aC,t.pending][j]'(by simpa using a8)):=adA _;have e5:adx.wrap ((j:Int)+1)=((j+1:Nat):Int):=by rw[ah (by omega)];omega
  have et:([t.id,t.aH,t.ar,t.aC,t.pending].take j).flatMap nb++nb ([t.id,t.aH,t.ar,t.aC,t.pending][j]'(by simpa using a8))=([t.id,t.aH,t.ar,t.aC,t.pending].take (j+1)).flatMap nb:=by
   rw[aeu (by simpa using a8),aex];simp
  rw[adB,XL _ _ _ hx,e5]
  repeat' first|apply ww|apply wm;intro _|apply wb|with_reducible first|refine c9 (by omega) ?_|refine Eg hlen ?_|fail
  rw[adI,et];refine T.drop fun w3 h3=>⟨⟨j+1,a8,rfl,?_⟩,by show 5-((j+1:Nat):Int).toNat<5-(j:Int).toNat;omega⟩;exact h3
 ·have he:j=5:=by have:=of_decide_eq_false h1;omega
  subst he;simp only[ft,adE];have e2:(([t.id,t.aH,t.ar,t.aC,t.pending].take 5).flatMap nb).length=80:=by rw[sr];rfl
  repeat' first|apply ww|apply wm;intro _|apply wb|with_reducible first|refine JN (by simp only[adD,aB,e2];omega) ?_|refine zG (by simp only[adD,aB,e2];omega) ?_|refine uy (by simp only[adD,aB,e2];omega) ?_|fail
  have e3:l++nj t=l++([t.id,t.aH,t.ar,t.aC,t.pending].take 5).flatMap nb++le .i64 4 t.timeout++le .i64 4 t.aJ++le .i64 2 t.code++le .i64 2 t.flags++le .i64 8 t.af++le .i64 8 t.born:=by
   unfold nj;simp only[adI];rfl
  rw[←e3];exact T.dp h
abbrev RS:=List UInt8×Bool
def uP(n:Nat)(x:RS):RS:=match n with|0=>x|n+1=>dG 16 (uP n x)
def B0(x:RS):RS:=dG 8 (dG 2 (dG 2 (dG 4 (uP 5 x))))
def DL(x:RS):aS:=if(B0 x).2=true then zA else
 ⟨vA x,vA (uP 1 x),vA (uP 2 x),vA (uP 3 x),vA (uP 4 x),jF 4 (uP 5 x),jF 2 (dG 4 (uP 5 x)),jF 2 (dG 2 (dG 4 (uP 5 x))),jF 8 (dG 2 (dG 2 (dG 4 (uP 5 x))))⟩
def BZ(x:RS):RS:=dG 8 (dG 8 (dG 2 (dG 2 (dG 4 (dG 4 (uP 5 x))))))
def DK(x:RS):Move:=if(BZ x).2=true then zT else
 ⟨vA x,vA (uP 1 x),vA (uP 2 x),vA (uP 3 x),vA (uP 4 x),jF 4 (uP 5 x),jF 4 (dG 4 (uP 5 x)),jF 2 (dG 4 (dG 4 (uP 5 x))),jF 2 (dG 2 (dG 4 (dG 4 (uP 5 x)))),
  jF 8 (dG 2 (dG 2 (dG 4 (dG 4 (uP 5 x))))),jF 8 (dG 8 (dG 2 (dG 2 (dG 4 (dG 4 (uP 5 x))))))⟩
variable {r:Nat} {x:RS} {g:RS→LH}
def nK{m:Nat}{x:RS}{B:Nat}(h:x.1.length<B):(dG m x).1.length<B:=Nat.lt_of_le_of_lt (qI m x) h
def Oe[i:Lc (rd r) L x g](hl:x.1.length<1099511627776)(h:T W (g (B0 x)) (K (.agg ⟨ak (DL x)⟩))):T W L (lG (some ⟨r,0,none⟩) K):=by
 unfold lG;have hq:=i.next
 repeat' first|apply ww|apply wm;intro _|apply wb|with_reducible first|refine Em (by repeat (first|exact hl|apply nK)) ?_|refine JS (by repeat (first|exact hl|apply nK)) ?_|refine zH (by repeat (first|exact hl|apply nK)) ?_|refine sS (by repeat (first|exact hl|apply nK)) ?_|refine uz ?_|fail
 have e:dG 8 (dG 2 (dG 2 (dG 4 (dG 16 (dG 16 (dG 16 (dG 16 (dG 16 x))))))))=B0 x:=rfl;rw[e];unfold DL at h;refine az (fun h1=>?_) (fun h1=>?_)
 ·rw[if_pos h1] at h
  repeat' first|apply ww|apply wm;intro _|apply wb
  exact T.dp h
 ·rw[if_neg (by rw[h1];decide)] at h
  repeat' first|apply ww|apply wm;intro _|apply wb
  exact T.dp h
def Ha[i:Lc (rd r) L x g](hl:x.1.length<1099511627776)(h:T W (g (BZ x)) (K (.agg ⟨ai (DK x)⟩))):T W L (kx (some ⟨r,0,none⟩) K):=by
 unfold kx;have hq:=i.next
 repeat' first|apply ww|apply wm;intro _|apply wb|with_reducible first|refine Em (by repeat (first|exact hl|apply nK)) ?_|refine JS (by repeat (first|exact hl|apply nK)) ?_|refine zH (by repeat (first|exact hl|apply nK)) ?_|refine sS (by repeat (first|exact hl|apply nK)) ?_|refine uz ?_|fail
 have e:dG 8 (dG 8 (dG 2 (dG 2 (dG 4 (dG 4 (dG 16 (dG 16 (dG 16 (dG 16 (dG 16 x))))))))))=BZ x:=rfl;rw[e];unfold DK at h;refine az (fun h1=>?_) (fun h1=>?_)
 ·rw[if_pos h1] at h
  repeat' first|apply ww|apply wm;intro _|apply wb
  exact T.dp h
 ·rw[if_neg (by rw[h1];decide)] at h
  repeat' first|apply ww|apply wm;intro _|apply wb
  exact T.dp h
end
end Go.Up
namespace Go.Den
open Go.RowKit
def oT(P:Program)(fT:TypeId→Option (LV)):Nat→List Field→Option (LV)
 |_,[]=>some []
 |o,f::r=>bif (f.name != "_")&&aeX f.offset o then
           match fT f.type with
           |some z=>bif (match P.info? f.type with|some i=>aeX i.size z.length|none=>false) then
                     match oT P fT (o+z.length) r with
                     |some zr=>some (z++zr)
                     |none=>none
            else none
           |none=>none
  else none
def uV(P:Program):Nat→TypeId→Option (LV)
 |0,_=>none
 |n+1,t=>match P.underlying t with
  |some (.int k)=>some [.int k 0]
  |some .bool=>some [.bool false]
  |some .string=>some [.string .empty]
  |some (.struct fs)=>bif P.stoodInHeld t then none else oT P (uV P n) 0 fs.toList
  |_=>none
def Vl(P:Program)(t:TypeId)(xs:LV):Value:=match P.underlying t with
 |some (.struct _)=>.agg ⟨xs⟩
 |_=>xs.headD undef
def mB:∀{zs xs:LV},lM zs xs=true→xs.length=zs.length
 |[],[],_=>rfl
 |[],_::_,h=>by simp[lM] at h
 |_::_,[],h=>by simp[lM] at h
 |z::zs,x::xs,h=>by simp only[lM,aet] at h;simp[mB h.2]
def tT:∀{z zr xs:LV},lM (z++zr) xs=true→∃a b,xs=a++b∧lM z a=true∧lM zr b=true
 |[],zr,xs,h=>⟨[],xs,rfl,rfl,h⟩
 |y::z,zr,[],h=>by simp[lM] at h
 |y::z,zr,x::xs,h=>by
  simp only[aeN,lM,aet] at h;obtain⟨a,b,rfl,h1,h2⟩:=tT h.2;exact⟨x::a,b,rfl,by simp[lM,h.1,h1],h2⟩
def pB:∀{a b c d:LV},a.length=b.length→gT (a++c) (b++d)=(gT a b&&gT c d)
 |[],[],c,d,_=>by simp[gT]
 |[],_::_,_,_,h=>by simp at h
 |_::_,[],_,_,h=>by simp at h
 |x::a,y::b,c,d,h=>by
  simp only[aeN,gT];rw[pB (by simpa using h),Bool.and_assoc]
def Jy{P:Program}:∀(n:Nat)(t:TypeId)(zs:LV),uV P n t=some zs→∀(xs ys:LV),lM zs xs=true→lM zs ys=true→∀(d:Nat)(w:World),(Op.equalIn (d+2* n) t (Vl P t xs) (Vl P t ys)).run P w=.ok (gT xs ys) w
 |0,_,_,h=>by simp[uV] at h
 |n+1,t,zs,h=>fun xs ys hx hy d w=>by
  have hd:d+2* (n+1)=(d+2* n+1)+1:=by omega
  rw[hd];unfold uV at h;unfold Vl;generalize hu:P.underlying t=u at h;split at h
  ·cases h
   obtain⟨x,rfl⟩:=List.length_eq_one_iff.1 (mB hx);obtain⟨y,rfl⟩:=List.length_eq_one_iff.1 (mB hy)
   ·simp only[lM,Bool.and_true] at hx hy;cases x<;>simp[fits] at hx
    cases y<;>simp[fits] at hy
    subst hx hy;simp[run_equalIn_int w _ t _ _ _ _ hu,gT,vm]
  ·cases h
   obtain⟨x,rfl⟩:=List.length_eq_one_iff.1 (mB hx);obtain⟨y,rfl⟩:=List.length_eq_one_iff.1 (mB hy)
   ·simp only[lM,Bool.and_true] at hx hy;cases x<;>simp[fits] at hx
    cases y<;>simp[fits] at hy
    simp[run_equalIn_bool w _ t _ _ hu,gT,vm]
  ·cases h
   obtain⟨x,rfl⟩:=List.length_eq_one_iff.1 (mB hx);obtain⟨y,rfl⟩:=List.length_eq_one_iff.1 (mB hy)
   ·simp only[lM,Bool.and_true] at hx hy;cases x<;>simp[fits] at hx
    cases y<;>simp[fits] at hy
    simp[run_equalIn_string w _ t _ _ hu,gT,vm,pq]
  ·rename_i fs;cases hs:P.stoodInHeld t with
   |true=>rw[hs] at h;cases h
   |false=>
    rw[hs] at h;have wB:P.fieldsOf t=fs:=by simp[Program.fieldsOf,hu]
    show(Op.equalIn _ t (.agg ⟨xs⟩) (.agg ⟨ys⟩)).run P w=_;rw[run_equalIn_struct w _ t ⟨xs⟩ ⟨ys⟩ (by rw[wB];exact hu) hs,wB];have key:∀(l:List Field)(o:Nat)(zs:LV)(pre Kl xs ys:LV),pre.length=o→Kl.length=o→oT P (uV P n) o l=some zs→lM zs xs=true→lM zs ys=true→
                                                              (Op.eqFields (d+2* n+1) ⟨pre++xs⟩ ⟨Kl++ys⟩ l).run P w=.ok (gT xs ys) w:=by
     intro l
     induction l with
     |nil=>
      intro o zs pre Kl xs ys h1 h2 h3 hx hy;simp only[oT,adU.injEq] at h3;subst h3;cases xs<;>cases ys<;>simp[lM] at hx hy
      simp[Op.eqFields,gT]
     |cons f l ih=>
      intro o zs pre Kl xs ys h1 h2 h3 hx hy;unfold oT at h3;cases hc:((f.name != "_")&&aeX f.offset o) with
      |false=>rw[hc] at h3;cases h3
      |true=>
       rw[hc] at h3;simp only[aet] at hc;have hn':f.name≠ "_":=by simpa using hc.1
       have ho':f.offset=o:=ad' hc.2;simp only[cond_true] at h3;cases hz:uV P n f.type with
       |none=>rw[hz] at h3;cases h3
       |some z=>
        rw[hz] at h3;dsimp only at h3;cases hi:P.info? f.type with
        |none=>rw[hi] at h3;cases h3
        |some i=>
         rw[hi] at h3;dsimp only at h3;cases oE:aeX i.size z.length with
         |false=>rw[oE] at h3;cases h3
         |true=>
          rw[oE] at h3;have oE:=ad' oE;simp only[cond_true] at h3;cases hr:oT P (uV P n) (o+z.length) l with
          |none=>rw[hr] at h3;cases h3
          |some zr=>
           rw[hr] at h3;simp only[adU.injEq] at h3;subst h3;obtain⟨x1,x2,rfl,a1,a2⟩:=tT hx;obtain⟨y1,y2,rfl,b1,b2⟩:=tT hy;have lx:=mB a1;have ly:=mB b1;have Jp:∀(p x1 x2:LV),p.length=o→lM z x1=true→(part f.type (⟨p++(x1++x2)⟩:Array Value) f.offset).run P w=.ok (Vl P f.type x1) w:=by
            intro p x1 x2 hp a1;have lx:=mB a1;cases n with
            |zero=>simp[uV] at hz
            |succ m=>
             unfold uV at hz;unfold Vl;generalize LL:P.underlying f.type=fu at hz;have zy:∀v:Value,x1=[v]→pF (fu.getD (.int .i64))=false→fu.isSome=true→(part f.type (⟨p++(x1++x2)⟩:Array Value) f.offset).run P w=.ok v w:=by
              intro v hv hg WR;subst hv;cases fu with
              |none=>cases WR
              |some fd=>
               simp only[aec] at hg;cases fd<;>simp[pF] at hg<;>simp[part,isAgg,underlying,LL,ho',hp]
             split at hz
             ·cases hz
              match x1,a1,lx,zy with
              |[v],_,_,zy=>exact zy v rfl rfl rfl
             ·cases hz
              match x1,a1,lx,zy with
              |[v],_,_,zy=>exact zy v rfl rfl rfl
             ·cases hz
              match x1,a1,lx,zy with
              |[v],_,_,zy=>exact zy v rfl rfl rfl
             ·simp only[part,isAgg,underlying,sizeOf,typeInfo,Sem.run_bind,run_program,Result.andThen_ok,LL,hi,Sem.run_pure,if_true,ho'];have:(⟨p++(x1++x2)⟩:Array Value).extract o (o+i.size)=⟨x1⟩:=by
               apply afc;rw[Array.toList_extract];show List.extract (p++(x1++x2)) o (o+i.size)=x1;rw[List.extract_eq_take_drop,←hp,List.drop_left' rfl,oE,show p.length+z.length-p.length=x1.length by omega,List.take_left' rfl]
              rw[this]
             ·cases hz
           have ihn:=Jy n f.type z hz x1 y1 a1 b1 (d+1) w;have OO:=ih (o+z.length) zr (pre++x1) (Kl++y1) x2 y2 (by rw[adD,h1,lx]) (by rw[adD,h2,ly]) hr a2 b2;rw[show d+1+2* n=d+2* n+1 by omega] at ihn;rw[adI,adI] at OO;rw[Op.eqFields];simp only[if_pos hn',Sem.run_bind,Jp pre x1 x2 h1 a1,Jp Kl y1 y2 h2 b1,ihn,Result.andThen_ok];rw[pB (by rw[lx,ly])];cases gT x1 y1
           ·simp
           ·simpa using OO
    have:=key fs.toList 0 zs [] [] xs ys rfl rfl (by simpa using h) hx hy;simpa using this
  ·cases h
def oA.nil{P:Program}:oA P []:=fun t zs h=>by simp[C8] at h
def oA.cons{P:Program}{E:OF}{t:Nat}{z:LV}{fs:Array Field}(h1:P.eqGuardType P.depth t=false)(h2:uV P 4 t=some z)(h3:P.underlying t=some (.struct fs))(h:oA P E):oA P ((t,z)::E):=fun u zs hu=>by
 unfold C8 at hu;cases hb:aeX t u with
 |true=>
  rw[hb] at hu;have:=ad' hb;subst this;cases hu
  refine⟨h1,fun xs ys hx hy w=>?_⟩;have:=Jy 4 t z h2 xs ys hx hy (Op.maxDepth-8) w;have e:Op.maxDepth-8+2* 4=Op.maxDepth:=by decide
  rw[e] at this;unfold Vl at this;rw[h3] at this;exact this
 |false=>
  rw[hb] at hu;exact h u zs hu
end Go.Den
namespace Go.Up
open Go.Sep Go.Den Go.RowKit Go.Prog Go.Md
def Ea:∀(xs ys:List Int),xs.length=ys.length→gT (xs.map (.int .i64)) (ys.map (.int .i64))=decide (xs=ys)
 |[],[],_=>rfl
 |[],_::_,h=>by simp at h
 |_::_,[],h=>by simp at h
 |x::xs,y::ys,h=>by
  simp only[aeb,gT,vm];rw[Ea xs ys (by simpa using h),adX];simp
def k9{a b:Nat}{xs ys:LV}:gT (nm a++xs) (nm b++ys)=(decide (a=b)&&gT xs ys):=by rw[pB (show(nm a).length=(nm b).length from rfl),Ss]
def D9(t u:Move):gT (ai t) (ai u)=decide (t=u):=by
 have e:=Ea [t.timeout,t.aJ,t.code,t.flags,t.af,t.born] [u.timeout,u.aJ,u.code,u.flags,u.af,u.born] rfl;simp only[aeb,afa] at e;unfold ai;rw[k9,k9,k9,k9,k9,e];rw[adX];obtain⟨a,b,c,d,e,f,g,h,i,j,k⟩:=t;obtain⟨a',b',c',d',e',f',g',h',i',j',k'⟩:=u;simp[and_assoc]
def QO(t u:aS):gT (ak t) (ak u)=decide (t=u):=by
 have e:=Ea [t.aJ,t.code,t.flags,t.af] [u.aJ,u.code,u.flags,u.af] rfl;simp only[aeb,afa] at e;unfold ak;rw[k9,k9,k9,k9,k9,e];rw[adX];obtain⟨a,b,c,d,e,f,g,h,i⟩:=t;obtain⟨a',b',c',d',e',f',g',h',i'⟩:=u;simp[and_assoc]
def QN(t u:Kept):gT (aM t) (aM u)=decide (t=u):=by
 unfold aM;rw[pB (show(ai t.asked).length=(ai u.asked).length from rfl),pB (show(ai t.move).length=(ai u.move).length from rfl),D9,D9,adX];obtain⟨a,b,c⟩:=t;obtain⟨a',b',c'⟩:=u;simp[gT,vm]
section
variable {W:World} {L:LH} {K:VK} {a b:aS} {t u:Move} {k j:Kept}
def Ml{K:Bool→WK}(h:T W L (K (decide (t=u)))):T W L (oa [.u 0,.u 0,.u 0,.u 0,.u 0,.u 0,.u 0,.u 0,.u 0,.u 0,.i 0,.i 0,.i 0,.i 0,.i 0,.i 0] (ai t) (ai u) K):=IG rfl rfl (by rw[D9];exact h)
def RN{K:Bool→WK}(h:T W L (K (decide (a=b)))):T W L (oa [.u 0,.u 0,.u 0,.u 0,.u 0,.u 0,.u 0,.u 0,.u 0,.u 0,.i 0,.i 0,.i 0,.i 0] (ak a) (ak b) K):=IG rfl rfl (by rw[QO];exact h)
def V8{K:Bool→WK}(h:T W L (K (decide (k=j)))):T W L (oa [.u 0,.u 0,.u 0,.u 0,.u 0,.u 0,.u 0,.u 0,.u 0,.u 0,.i 0,.i 0,.i 0,.i 0,.i 0,.i 0,.u 0,.u 0,.u 0,.u 0,.u 0,.u 0,.u 0,.u 0,.u 0,.u 0,.i 0,.i 0,.i 0,.i 0,.i 0,.i 0,.i 0] (aM k) (aM j) K):=IG rfl rfl (by rw[QN];exact h)
def IF{cs:LV}{n j:Nat}{v:Value}{K:VK}(hj:j<n)(hv:cs[j]?=some v)(h:T W L (K v)):T W L (yq cs n (j:Int) K):=fun w hs=>⟨v,⟨by omega,by omega,by rw[adB];exact hv⟩,h w hs⟩
def Og(ha:0≤a.flags∧a.flags<256)(hb:0≤b.flags∧b.flags<256)(h:T W L (K (.i (rr a b)))):T W L (kh (ak a) (ak b) K):=by
 unfold kh kh.j1
 repeat' first|apply ww|apply wm;intro _|apply wb|with_reducible refine az (fun h1=>?_) (fun h1=>?_)|fail
 all_goals
  refine T.fin (T.dp h) ?_
  congr 1
  unfold rr
  all_goals try simp only[Sx ha.1 ha.2,Sx hb.1 hb.2,bz] at *
  all_goals (split<;>omega)
def Ew(hf:0≤t.flags∧t.flags<256)(h:T W L (K (.bool (decide (iR t.flags))))):T W L (mw (ai t) K):=by
 unfold mw
 repeat' first|apply ww|apply wm;intro _|apply wb
 refine T.fin (T.dp h) ?_;congr 1;(rw[adX];(try simp only[bz,false_iff,true_iff] at *)<;>(try simp only[Sw hf.1 hf.2,adO] at *)<;>omega)
def qd(hf:0≤t.flags∧t.flags<256)(h:T W L (K (.bool (decide (has t.flags 2))))):T W L (hI (ai t) K):=by
 unfold hI
 repeat' first|apply ww|apply wm;intro _|apply wb
 refine T.fin (T.dp h) ?_;congr 1;(rw[adX];(try simp only[bz,false_iff,true_iff] at *)<;>(try simp only[Gx hf.1 hf.2,adO] at *)<;>omega)
def BH(hf:0≤t.flags∧t.flags<256)(h:T W L (K (.bool (decide (has t.flags 16∨has t.flags 32))))):T W L (jM (ai t) K):=by
 unfold jM
 repeat' first|apply ww|apply wm;intro _|apply wb
 refine T.fin (T.dp h) ?_;congr 1;(rw[adX];(try simp only[bz,false_iff,true_iff] at *)<;>(try simp only[YF hf.1 hf.2,adO] at *)<;>omega)
def EX(ht:0≤t.flags∧t.flags<256)(hu:0≤u.flags∧u.flags<256)(h:T W L (K (.i (qw t u)))):T W L (mJ (ai t) (ai u) K):=by
 unfold mJ
 repeat' first|apply ww|apply wm;intro _|apply wb|with_reducible refine Ml ?_|fail
 rw[Sv ht.1 ht.2,Sv hu.1 hu.2];unfold qw at h;have e:({t with flags:=t.flags/2* 2}:Move)={u with flags:=u.flags/2* 2}↔({t with flags:=t.flags/2}:Move)={u with flags:=u.flags/2}:=by
  have LN:t.flags/2* 2=u.flags/2* 2↔t.flags/2=u.flags/2:=by omega
  simp only[Md.Move.mk.injEq,LN]
 refine az (fun h1=>?_) (fun h1=>?_)
 ·rw[if_pos (e.1 (of_decide_eq_true h1))] at h;exact T.dp h
 ·rw[if_neg (fun hh=>of_decide_eq_false h1 (e.2 hh))] at h;exact T.dp h
def y8(f:Int)(i:Nat):Int:=(([2,4,8]:List Int).take i).foldl (fun n b=>if has f b then n+1 else n) 0
def G7(hf:0≤t.flags∧t.flags<256)(h:T W L (K (.bool (decide (gW t.flags))))):T W L (gp (ai t) K):=by
 unfold gp
 repeat' first|apply ww|apply wm;intro _|apply wb
 rename_i r;intro w hs;refine⟨fun vs w=>∃i:Nat,i≤3∧vs=[.p (some (ad r 0)),.bool false,.i (y8 t.flags i),.agg ⟨[.i 2,.i 4,.i 8]⟩,.i (i:Int)]∧St W w (Sep.pt r (ai t)::L),
  fun vs _=>match vs with|[_,_,_,_,.int _ j]=>3-j.toNat|_=>0,⟨0,adK _,rfl,hs⟩,?_⟩
 rintro a1 b1 n1 Q0 n2 w2 ⟨j,hj,e,hs⟩;cases e
 refine T.at ?_ hs;simp only[ft,adE];refine az (fun h1=>?_) (fun h1=>?_)
 ·have a8:j<3:=by have:=of_decide_eq_true h1;omega
  have e5:adx.wrap ((j:Int)+1)=((j+1:Nat):Int):=by rw[ah (by omega)];omega
  have key:∃m:Int,([.i 2,.i 4,.i 8]:LV)[j]?=some (.i m)∧(bG .i64 .and t.flags m=0↔ ¬has t.flags m)∧y8 t.flags (j+1)=(if has t.flags m then y8 t.flags j+1 else y8 t.flags j)∧0≤y8 t.flags j∧y8 t.flags j≤j:=by
   match j,a8 with
   |0,_=>exact⟨2,rfl,Gx hf.1 hf.2,rfl,ae5 0,ae5 0⟩
   |1,_=>exact⟨4,rfl,Gw hf.1 hf.2,rfl,by simp only[y8,List.take,List.foldl];split<;>decide,by simp only[y8,List.take,List.foldl];split<;>decide⟩
   |2,_=>exact⟨8,rfl,N6 hf.1 hf.2,rfl,by simp only[y8,List.take,List.foldl];split<;>split<;>decide,by simp only[y8,List.take,List.foldl];split<;>split<;>decide⟩
  obtain⟨m,k1,k2,k3,k4,k5⟩:=key;refine IF (by omega) k1 ?_
  repeat' first|apply ww|apply wm;intro _|apply wb|with_reducible refine az (fun h1=>?_) (fun h1=>?_)|fail
  all_goals rw[e5]
  ·have h2:has t.flags m:=by
    have:=(bne_iff_ne.1 h1);rw[ne_eq,k2,adO] at this;exact this
   rw[if_pos h2] at k3;rw[ah (by omega),←k3];exact fun w3 h3=>⟨⟨j+1,a8,rfl,h3⟩,by show 3-((j+1:Nat):Int).toNat<3-(j:Int).toNat;omega⟩
  ·have h2: ¬has t.flags m:=k2.1 (bne_eq_false_iff_eq.1 h1);rw[if_neg h2] at k3;rw[←k3];exact fun w3 h3=>⟨⟨j+1,a8,rfl,h3⟩,by show 3-((j+1:Nat):Int).toNat<3-(j:Int).toNat;omega⟩
 ·have he:j=3:=by have:=of_decide_eq_false h1;omega
  subst he;have hc:y8 t.flags 3≤1↔ ¬(has t.flags 2∧has t.flags 4∨has t.flags 2∧has t.flags 8∨has t.flags 4∧has t.flags 8):=by
   simp only[y8,List.take,List.foldl];by_cases h2:has t.flags 2<;>by_cases h4:has t.flags 4<;>by_cases h8:has t.flags 8<;>simp[h2,h4,h8]
  simp only[gp.j1,ft,adE]
  repeat' first|apply ww|apply wm;intro _|apply wb|with_reducible first|refine Ew hf ?_|refine qd hf ?_|refine az (fun h1=>?_) (fun h1=>?_)|fail
  all_goals
   refine T.fin (T.dp h) ?_
   congr 1
   rw[adX]
   all_goals try simp only[Sw hf.1 hf.2,acH hf.1 hf.2,acI hf.1 hf.2,hc,true_iff,false_iff,bz] at *
   all_goals (unfold gW;simp_all<;>(intros;omega))
def Lg(t:Move):Int:=if t.pending=0 then 16 else if t.aJ<0∨4294967296≤t.aJ then 8 else if t.code<0∨65536≤t.code then 9 else 0
def Lf(t:Move):Int:=if t.aH=0 then 12 else if t.ar=0 then 13 else if t.aH=t.ar then 14 else if t.pending≠0 then 15 else if t.aC=0∧¬has t.flags 16∧¬has t.flags 32 then 18
 else if t.aJ<1∨4294967296≤t.aJ then 8 else if t.code<1∨65536≤t.code then 9 else 0
def NI(h:T W L (K (.i (Lg t)))):T W L (jl (ai t) K):=by
 unfold jl jl.j1
 repeat' first|apply ww|apply wm;intro _|apply wb|with_reducible first|refine qx ?_|refine az (fun h1=>?_) (fun h1=>?_)|fail
 all_goals try simp only[bz] at *
 all_goals (refine T.fin (T.dp h) ?_;congr 1;unfold Lg;repeat' split)
 all_goals omega
def M7(hf:0≤t.flags∧t.flags<256)(h:T W L (K (.i (Lf t)))):T W L (fU (ai t) K):=by
 unfold fU fU.j1 fU.j2
 repeat' first|apply ww|apply wm;intro _|apply wb|with_reducible first|refine qx ?_|refine BH hf ?_|refine az (fun h1=>?_) (fun h1=>?_)|fail
 all_goals try simp only[bz] at *
 all_goals (refine T.fin (T.dp h) ?_;congr 1;unfold Lf has at *;repeat' split)
 all_goals first|rfl|omega
def EW(G:pK W)(ht:uY t)(h:T W L (K (.i (lE t)))):T W L (cB (ai t) K):=by
 by_cases hf:0≤t.flags∧t.flags<256
 ·unfold cB cB.j1 cB.j2 cB.j4 cB.j3;rw[show lE t=if t.flags<0∨255<t.flags then 3 else if t.id=0 then 4 else if t.id=aO-1 then 5 else if ¬gW t.flags then 6
   else if t.af≠0∨t.born≠0 then 7 else if t.timeout<0∨1073741824<t.timeout∨0<t.timeout∧¬has t.flags 2 then 17
   else if iR t.flags then Lg t else Lf t from rfl] at h
  repeat' first|apply ww|apply wm;intro _|apply wb|with_reducible first|refine qx ?_|refine IE ⟨tI _,G.Qc⟩ ?_|refine G7 hf ?_|refine Ew hf ?_|refine qd hf ?_|refine NI ?_|refine M7 hf ?_|refine az (fun h1=>?_) (fun h1=>?_)|fail
  all_goals try simp only[bz] at *
  all_goals (refine T.fin (T.dp h) ?_;congr 1;repeat' split)
  all_goals first|rfl|omega|(simp_all;done)|(simp_all;omega)
 ·unfold cB cB.j1;rw[show lE t=3 from if_pos (by omega)] at h
  repeat' first|apply ww|apply wm;intro _|apply wb
  refine az (fun h1=>?_) (fun h1=>?_)
  ·rw[jk];exact T.dp h
  repeat' first|apply ww|apply wm;intro _|apply wb
  rw[decide_eq_true (by have:=of_decide_eq_false h1;omega),jk];exact T.dp h
end
end Go.Up
namespace Go.Md
def iI(a:aS)(aH:Bool):Nat:=if aH then a.cq-(a.dp+a.dq) else a.dq-(a.cp+a.cq)
def more(a:aS)(aH:Bool)(n:Nat)(pending:Bool):aS×Int:=
 if aH then
  (if aO≤a.dp+a.dq+n then(a,32) else if has a.flags 2∧iI a true<n then(a,33) else(if pending then{a with dp:=a.dp+n} else{a with dq:=a.dq+n},0))
 else
  (if aO≤a.cp+a.cq+n then(a,32) else if has a.flags 4∧iI a false<n then(a,34) else(if pending then{a with cp:=a.cp+n} else{a with cq:=a.cq+n},0))
def Model.full(m:Model)(a:aS):aS:=m.kept.foldl sn a
def Model.find(m:Model)(id:Nat):Option aS:=m.made.find? fun a=>a.id=id
def Model.name(m:Model)(id:Nat):Option Nat:=m.kept.findIdx? fun k=>k.move.id=id
def Model.make(m:Model)(a:aS):Int×Model:=
 if qE a≠0 then(qE a,m) else match m.find a.id with
 |some x=>(rr a x,m)
 |none=>if 32≤m.made.length then(35,m) else(0,{m with af:=m.af+1,made:=m.made++[{a with af:=m.af+1,flags:=a.flags/2* 2}]})
def Model.kY(m:Model)(asked t:Move)(fate:Int):Model:=
 {m with af:=m.af+1,kept:=m.kept++[⟨asked,{t with af:=m.af+1,born:=m.clock},fate⟩]}
def bQ(t:Move)(d c:aS):Nat×Int:=
 let n0:=if t.aC=0 then aO-1 else t.aC
 let n1:=if has t.flags 16 then min n0 (iI d true) else n0
 if has t.flags 16∧n1=0 then(0,33) else
 let n2:=if has t.flags 32 then min n1 (iI c false) else n1
 if has t.flags 32∧n2=0 then(0,34) else(n2,0)
def jb(t:Move)(named:Option Kept)(d c:Option aS)(many:Nat):Int×Nat:=
 if lE t≠0 then(lE t,0) else if iR t.flags then(6,0) else match named with
 |some k=>(qw t k.asked,0)
 |none=>match d with
  |none=>(19,0)
  |some d=>match c with
   |none=>(20,0)
   |some c=>
    if d.aJ≠c.aJ then(21,0) else if d.aJ≠t.aJ then(22,0) else if 8≤d.flags then(30,0) else if 8≤c.flags then(31,0)
    else if 96≤many then(35,0)
    else if(bQ t d c).2≠0 then((bQ t d c).2,0)
    else if(more d true (bQ t d c).1 (decide (has t.flags 2))).2≠0 then((more d true (bQ t d c).1 (decide (has t.flags 2))).2,0)
    else if(more c false (bQ t d c).1 (decide (has t.flags 2))).2≠0 then((more c false (bQ t d c).1 (decide (has t.flags 2))).2,0)
    else(0,(bQ t d c).1)
def waits(t:Move):Int:=if has t.flags 2 then 1 else 0
def Model.named(m:Model)(id:Nat):Option Kept:=m.kept.find? fun k=>k.move.id=id
def Model.move(m:Model)(t:Move):Int×Model:=
 let r:=jb t (m.named t.id) ((m.find t.aH).map m.full) ((m.find t.ar).map m.full) m.kept.length
 if r.1≠0 then(r.1,m) else(0,m.kY t {t with aC:=r.2} (waits t))
def Model.closed(m:Model)(id:Nat)(Q':Nat):Bool:=
 match m.find id with
 |some a=>decide (8≤((m.kept.modify Q' fun k=>{k with fate:=3}).foldl sn a).flags)
 |none=>false
def dA(t p:Move):Prop:=(t.aH≠0∧t.aH≠p.aH)∨(t.ar≠0∧t.ar≠p.ar)∨(t.aJ≠0∧t.aJ≠p.aJ)∨(t.code≠0∧t.code≠p.code)
instance(t p:Move):Decidable (dA t p):=by unfold dA;infer_instance
def bU(t p:Move):Nat:=if t.aC=0 then p.aC else t.aC
def jL(t p:Move):Prop:=(has t.flags 4∧p.aC<bU t p)∨(¬has t.flags 4∧bU t p≠p.aC)
instance(t p:Move):Decidable (jL t p):=by unfold jL;infer_instance
def lO(t:Move)(named Kn:Option Kept)(QZ Q8:Bool)(many:Nat):Int:=
 if lE t≠0 then lE t else if ¬iR t.flags then 6 else match named with
 |some k=>qw t k.asked
 |none=>match Kn with
  |none=>23
  |some k=>
   if ¬has k.move.flags 2 then 24 else if dA t k.move then 25 else if 1<k.fate then 25+k.fate else if jL t k.move then 26
   else if has t.flags 4∧QZ=true then 30 else if has t.flags 4∧Q8=true then 31 else if 96≤many then 35 else 0
def cf(t:Move):Int:=if has t.flags 4 then 2 else 3
def kK(t p:Move):Move:={t with aH:=p.aH,ar:=p.ar,aC:=bU t p,aJ:=p.aJ,code:=p.code}
def Model.c7(m:Model)(i:Nat)(fate:Int):Model:={m with kept:=m.kept.modify i fun k=>{k with fate:=fate}}
def Model.mH(m:Model)(t:Move):Int×Model:=
 match m.name t.pending with
 |none=>(lO t (m.named t.id) none false false m.kept.length,m)
 |some i=>match m.kept[i]? with
  |none=>(lO t (m.named t.id) none false false m.kept.length,m)
  |some k=>
   let r:=lO t (m.named t.id) (some k) (m.closed k.move.aH i) (m.closed k.move.ar i) m.kept.length
   if r≠0 then(r,m) else(0,(m.c7 i (cf t)).kY t (kK t k.move) 0)
def kk(clock:Int)(k:Kept):Prop:=k.fate=1∧0<k.move.timeout∧k.move.born+k.move.timeout≤clock
instance(clock:Int)(k:Kept):Decidable (kk clock k):=by unfold kk;infer_instance
def Model.time(m:Model)(now:Int):Model:=
 let clock:=if m.clock<now∧now≤1099511627776 then now else m.clock
 {m with clock:=clock,kept:=m.kept.map fun k=>if kk clock k then{k with fate:=4} else k}
def Model.oF(m:Model)(t:Move):Int×Model:=if lE t=0∧iR t.flags then m.mH t else m.move t
def ax.find(b:ax)(id:Nat):Option aS:=b.ag.find? fun a=>a.id=id
def ax.aF(b:ax)(a:aS):ax:={b with ag:=b.ag.map fun x=>if x.id=a.id then{a with af:=x.af} else x}
def ax.kY(b:ax)(asked t:Move)(fate:Int):ax:=
 {b with af:=b.af+1,kept:=b.kept++[⟨asked,{t with af:=b.af+1,born:=b.clock},fate⟩]}
def ax.fate(b:ax)(id:Nat)(fate:Int):ax:={b with kept:=b.kept.map fun k=>if k.move.id=id∧k.fate=1 then{k with fate:=fate} else k}
def ax.make(b:ax)(a:aS):Int×ax:=
 if qE a≠0 then(qE a,b) else match b.find a.id with
 |some x=>(rr a x,b)
 |none=>if 32≤b.ag.length then(35,b) else(0,{b with af:=b.af+1,ag:=b.ag++[{a with af:=b.af+1,flags:=a.flags/2* 2}]})
def close(a:aS)(yes:Prop)[Decidable yes]:aS:=if yes then{a with flags:=a.flags%8+8} else a
def open_(a:aS)(yes:Prop)[Decidable yes]:aS:=if yes then{a with flags:=a.flags%8} else a
def ax.named(b:ax)(id:Nat):Option Kept:=b.kept.find? fun k=>k.move.id=id
def ax.yn(b:ax)(t:Move)(n:Nat):ax:=
 match b.find t.aH,b.find t.ar with
 |some d,some c=>((b.aF (close (more d true n (decide (has t.flags 2))).1 (has t.flags 64))).aF (close (more c false n (decide (has t.flags 2))).1 (has t.flags 128))).kY t {t with aC:=n} (waits t)
 |_,_=>b
def ax.move(b:ax)(t:Move):Int×ax:=
 let r:=jb t (b.named t.id) (b.find t.aH) (b.find t.ar) b.kept.length
 if r.1≠0 then(r.1,b) else(0,b.yn t r.2)
def vc(d:aS)(p:Move)(n:Nat)(fate:Int):aS:=if fate=2 then{d with dp:=d.dp-p.aC,dq:=d.dq+n} else open_ {d with dp:=d.dp-p.aC} (has p.flags 64)
def vW(c:aS)(p:Move)(n:Nat)(fate:Int):aS:=if fate=2 then{c with cp:=c.cp-p.aC,cq:=c.cq+n} else open_ {c with cp:=c.cp-p.aC} (has p.flags 128)
def ax.release(b:ax)(p:Move)(n:Nat)(fate:Int):ax:=
 match b.find p.aH,b.find p.ar with
 |some d,some c=>((b.aF (vc d p n fate)).aF (vW c p n fate)).fate p.id fate
 |_,_=>b
def ax.jW(b:ax)(id:Nat)(by_:Prop)[Decidable by_]:Bool:=match b.find id with|some d=>decide (8≤d.flags∧¬by_)|none=>false
def ax.mH(b:ax)(t:Move):Int×ax:=
 match b.named t.pending with
 |none=>(lO t (b.named t.id) none false false b.kept.length,b)
 |some k=>
  let r:=lO t (b.named t.id) (some k) (b.jW k.move.aH (has k.move.flags 64)) (b.jW k.move.ar (has k.move.flags 128)) b.kept.length
  if r≠0 then(r,b) else(0,(b.release k.move (bU t k.move) (cf t)).kY t (kK t k.move) 0)
def ax.oF(b:ax)(t:Move):Int×ax:=if lE t=0∧iR t.flags then b.mH t else b.move t
end Go.Md
namespace Go.Up
open Go.Sep Go.Den Go.RowKit Go.Prog Go.Md
section
variable {W:World} {L:LH} {K:VK} {a:aS} {n m:Nat} {p:Bool}
def Tf{a b:Nat}:(if a+b<aO then a+b else aO-1)<aO:=by unfold aO;split<;>omega
def IA(G:pK W)(hn:n<aO)(hm:m<aO)(h:T W L (K (.agg ⟨nm (if n+m<aO then n+m else aO-1)⟩))):T W L (fe (nm n) (nm m) K):=by
 unfold fe
 repeat' first|apply ww|apply wm;intro _|apply wb|with_reducible first|refine yQ hn hm ?_|refine IE ⟨tI _,G.Qc⟩ ?_|refine az (fun h1=>?_) (fun h1=>?_)|fail
 all_goals (refine T.fin (T.dp h) ?_;congr 3;all_goals try simp only[bz] at *)
 ·rw[if_neg (by omega)]
 ·rw[if_pos h1,if_pos h1]
def Eu(G:pK W)(ha:vy a)(h:T W L (K (.agg ⟨nm (iI a p)⟩))):T W L (bS (ak a) p K):=by
 obtain⟨-,d1,d2,c1,c2,-,-,-,-⟩:=ha;unfold bS;have k1:∀x y z:Nat,x<aO→y<aO→z<aO→(if x<(if y+z<aO then y+z else aO-1) then 0 else x-(if y+z<aO then y+z else aO-1))=x-(y+z):=fun x y z hx hy hz=>by
  by_cases hh:y+z<aO
  ·rw[if_pos hh];split<;>omega
  ·rw[if_neg hh];split<;>omega
 have e1:p=true→iI a p=a.cq-(a.dp+a.dq):=fun e=>by rw[e];rfl
 have e2:p=false→iI a p=a.dq-(a.cp+a.cq):=fun e=>by rw[e];rfl
 repeat' first|apply ww|apply wm;intro _|apply wb|with_reducible first|refine IA G d1 d2 ?_|refine IA G c1 c2 ?_|refine az (fun h1=>?_) (fun h1=>?_)|fail
 all_goals simp only[bS.j1,bS.j2,bS.j3,bS.j4,bS.j5,bS.j6]
 all_goals repeat' first|apply ww|apply wm;intro _|apply wb|with_reducible refine Oi (by assumption) Tf ?_|fail
 all_goals (refine T.fin (T.dp h) ?_;first|rw[e1 (by assumption),k1 _ _ _ (by assumption) (by assumption) (by assumption)]|rw[e2 (by assumption),k1 _ _ _ (by assumption) (by assumption) (by assumption)])
def A6(ha:vy a):iI a p<aO:=by
 have:=ha.dq;have:=ha.cq;unfold iI;split<;>omega
def Mu(x y z:Nat):ye 0 [x,y,z]=if x+y+z<aO then some (x+y+z) else none:=by
 simp only[ye,adE]
 repeat' split
 all_goals first|rfl|omega
def Rw(G:pK W)(ha:vy a)(hn:n<aO)(hf:0≤a.flags∧a.flags<256)(h:T W L (K (.tuple ⟨[.agg ⟨ak (more a true n p).1⟩,.i (more a true n p).2]⟩))):T W L (iS (ak a) (nm n) p K):=by
 unfold iS
 repeat' first|apply ww|apply wm;intro _|apply wb
 rename_i r4;refine Sz (l:=[a.dp,a.dq,n]) (by simp;exact⟨ha.dp,ha.dq,hn⟩) (by show 3<1000;decide) ?_;rw[Mu]
 repeat' first|apply ww|apply wm;intro _|apply wb
 unfold more at h;refine az (fun h1=>?_) (fun h1=>?_)
 ·have hh: ¬a.dp+a.dq+n<aO:=fun hh=>by rw[if_pos hh] at h1;cases h1
  rw[if_pos rfl,if_pos (by omega)] at h
  repeat' first|apply ww|apply wm;intro _|apply wb
  exact T.dp h
 have hh:a.dp+a.dq+n<aO:=by
  by_cases hh:a.dp+a.dq+n<aO
  ·exact hh
  ·rw[if_neg hh] at h1;cases h1
 rw[if_pos rfl,if_neg (by omega)] at h;have j1:∀r5 r4 r3 r2 r1:Nat,∀c4 c5:LV,T W (Sep.pt r5 c5::Sep.pt r4 c4::Sep.pt r3 (ak zA)::Sep.pt r2 (nm n)::Sep.pt r1 (ak a)::L) (iS.j1 K r1 r3 p r2 (decide (has a.flags 2∧iI a true<n))):=fun r5 r4 r3 r2 r1 c4 c5=>by
  unfold iS.j1;refine az (fun h1=>?_) (fun h1=>?_)
  ·rw[if_pos (of_decide_eq_true h1)] at h
   repeat' first|apply ww|apply wm;intro _|apply wb
   exact T.dp h
  rw[if_neg (of_decide_eq_false h1)] at h;refine az (fun h1=>?_) (fun h1=>?_)
  ·rw[if_pos h1] at h;have hx:a.dp+n<aO:=by omega
   repeat' first|apply ww|apply wm;intro _|apply wb|with_reducible refine yQ ha.dp hn ?_|fail
   rw[if_pos hx]
   repeat' first|apply ww|apply wm;intro _|apply wb
   exact T.dp h
  ·rw[if_neg (by rw[h1];decide)] at h;have hx:a.dq+n<aO:=by omega
   repeat' first|apply ww|apply wm;intro _|apply wb|with_reducible refine yQ ha.dq hn ?_|fail
   rw[if_pos hx]
   repeat' first|apply ww|apply wm;intro _|apply wb
   exact T.dp h
 repeat' first|apply ww|apply wm;intro _|apply wb
 refine az (fun h1=>?_) (fun h1=>?_)
 ·have h2:has a.flags 2:=by
   have:=bne_iff_ne.1 h1;rw[ne_eq,Gx hf.1 hf.2,adO] at this;exact this
  repeat' first|apply ww|apply wm;intro _|apply wb|with_reducible first|refine Eu G ha ?_|refine xX ?_|fail
  have e:decide (iI a true<n)=decide (has a.flags 2∧iI a true<n):=by simp[h2]
  rw[e];exact j1 _ _ _ _ _ _ _
 ·have h2: ¬has a.flags 2:=(Gx hf.1 hf.2).1 (bne_eq_false_iff_eq.1 h1);have e:false=decide (has a.flags 2∧iI a true<n):=by simp[h2]
  rw[e];exact j1 _ _ _ _ _ _ _
def OI(G:pK W)(ha:vy a)(hn:n<aO)(hf:0≤a.flags∧a.flags<256)(h:T W L (K (.tuple ⟨[.agg ⟨ak (more a false n p).1⟩,.i (more a false n p).2]⟩))):T W L (ia (ak a) (nm n) p K):=by
 unfold ia
 repeat' first|apply ww|apply wm;intro _|apply wb
 rename_i r4;refine Sz (l:=[a.cp,a.cq,n]) (by simp;exact⟨ha.cp,ha.cq,hn⟩) (by show 3<1000;decide) ?_;rw[Mu]
 repeat' first|apply ww|apply wm;intro _|apply wb
 unfold more at h;refine az (fun h1=>?_) (fun h1=>?_)
 ·have hh: ¬a.cp+a.cq+n<aO:=fun hh=>by rw[if_pos hh] at h1;cases h1
  rw[if_neg (by decide),if_pos (by omega)] at h
  repeat' first|apply ww|apply wm;intro _|apply wb
  exact T.dp h
 have hh:a.cp+a.cq+n<aO:=by
  by_cases hh:a.cp+a.cq+n<aO
  ·exact hh
  ·rw[if_neg hh] at h1;cases h1
 rw[if_neg (by decide),if_neg (by omega)] at h;have j1:∀r5 r4 r3 r2 r1:Nat,∀c4 c5:LV,T W (Sep.pt r5 c5::Sep.pt r4 c4::Sep.pt r3 (ak zA)::Sep.pt r2 (nm n)::Sep.pt r1 (ak a)::L) (ia.j1 K r1 r3 p r2 (decide (has a.flags 4∧iI a false<n))):=fun r5 r4 r3 r2 r1 c4 c5=>by
  unfold ia.j1;refine az (fun h1=>?_) (fun h1=>?_)
  ·rw[if_pos (of_decide_eq_true h1)] at h
   repeat' first|apply ww|apply wm;intro _|apply wb
   exact T.dp h
  rw[if_neg (of_decide_eq_false h1)] at h;refine az (fun h1=>?_) (fun h1=>?_)
  ·rw[if_pos h1] at h;have hx:a.cp+n<aO:=by omega
   repeat' first|apply ww|apply wm;intro _|apply wb|with_reducible refine yQ ha.cp hn ?_|fail
   rw[if_pos hx]
   repeat' first|apply ww|apply wm;intro _|apply wb
   exact T.dp h
  ·rw[if_neg (by rw[h1];decide)] at h;have hx:a.cq+n<aO:=by omega
   repeat' first|apply ww|apply wm;intro _|apply wb|with_reducible refine yQ ha.cq hn ?_|fail
   rw[if_pos hx]
   repeat' first|apply ww|apply wm;intro _|apply wb
   exact T.dp h
 repeat' first|apply ww|apply wm;intro _|apply wb
 refine az (fun h1=>?_) (fun h1=>?_)
 ·have h2:has a.flags 4:=by
   have:=bne_iff_ne.1 h1;rw[ne_eq,Gw hf.1 hf.2,adO] at this;exact this
  repeat' first|apply ww|apply wm;intro _|apply wb|with_reducible first|refine Eu G ha ?_|refine xX ?_|fail
  have e:decide (iI a false<n)=decide (has a.flags 4∧iI a false<n):=by simp[h2]
  rw[e];exact j1 _ _ _ _ _ _ _
 ·have h2: ¬has a.flags 4:=(Gw hf.1 hf.2).1 (bne_eq_false_iff_eq.1 h1);have e:false=decide (has a.flags 4∧iI a false<n):=by simp[h2]
  rw[e];exact j1 _ _ _ _ _ _ _
end
end Go.Up
namespace Go.Up
open Go.Sep Go.Den Go.RowKit Go.Prog Go.Md Go.bI
section
variable {W:World} {L:LH} {K:VK} {X:WK} {α:Type} {r n c e o j:Nat} {l:List α} {x y:α} {g:α→LV} {f:HP→LH}
def dV{K:LV→WK}[i:pa (some ⟨r,0,none⟩) n c L e (l.flatMap g) f](hf:∀x,(g x).length=e)(hx:l[o]?=some x)(h:T W L (K (g x))):T W L (aj ⟨r,o* e,none⟩ e K):=fun w hs=>by
 obtain⟨k,hk,_⟩:=i.at_;exact DO hs hk (hf x) (ov hf l o x hx) (h w hs)
def z7{v:Value}[i:pa (some ⟨r,0,none⟩) n c L e (l.flatMap g) f](hf:∀x,(g x).length=e)(hx:l[o]?=some x)(hv:(g x)[j]?=some v)(h:T W L (K v)):T W L (ld ⟨r,o* e+j,none⟩ K):=fun w hs=>by
 obtain⟨k,hk,_⟩:=i.at_;exact xx hs hk (ov hf l o x hx j v hv) (h w hs)
def u4{v:Value}[i:pa (some ⟨r,0,none⟩) n c L e (l.flatMap g) f](hf:∀x,(g x).length=e)(hx:l[o]?=some x)(hv:(g x)[0]?=some v)(h:T W L (K v)):T W L (ld ⟨r,o* e,none⟩ K):=z7 (j:=0) hf hx hv h
def D4(hf:∀x,(g x).length=e)(ho:o<l.length):o* e+e≤(l.flatMap g).length:=by
 rw[wF hf,←Nat.succ_mul];exact aem e ho
def nF[i:pa (some ⟨r,0,none⟩) n c L e (l.flatMap g) f](hf:∀x,(g x).length=e)(ho:o<l.length)(h1:∀v∈g x,v.oneCell'=true)
 (h:T W (f (own (some ⟨r,0,none⟩) n c e ((l.set o x).flatMap g))) X):T W L (iN ⟨r,o* e,none⟩ (g x) X):=fun w hs=>by
 obtain⟨k,hk,e1⟩:=i.at_;refine Px hs hk (by rw[hf];exact D4 hf ho) h1 fun w' h'=>h w' ?_;rw[e1,←Bb hf l o x ho];exact h'
def xF{v:Value}(hf:∀x,(g x).length=e)(hx:l[o]?=some x)(hy:g y=(g x).set j v)(hj:j<e):(l.flatMap g).set (o* e+j) v=(l.set o y).flatMap g:=by
 have ho:=(adC.1 hx).1;have hle:=D4 hf ho;rw[←Bb hf l o y ho];apply aeV;intro i;rw[wc (by rw[hf];exact hle),ad7];by_cases h1:i<o* e
 ·rw[if_pos h1,if_neg (by omega)]
 ·rw[if_neg h1];by_cases h2:i<o* e+(g y).length
  ·rw[if_pos h2,hy,ad7];rw[hf] at h2;obtain⟨m,rfl⟩:∃m,i=o* e+m:=⟨i-o* e,by omega⟩;rw[Nat.add_sub_cancel_left];by_cases h3:j=m
   ·subst h3;rw[if_pos rfl,if_pos rfl,if_pos (by omega),if_pos (by rw[hf];omega)]
   ·rw[if_neg (by omega),if_neg h3];have hm:m<(g x).length:=by rw[hf];omega
    rw[adA hm];exact ov hf l o x hx m _ (adA hm)
  ·rw[if_neg h2,if_neg (by rw[hf] at h2;omega)]
def zX{v:Value}[i:pa (some ⟨r,0,none⟩) n c L e (l.flatMap g) f](hf:∀x,(g x).length=e)(hx:l[o]?=some x)(hy:g y=(g x).set j v)(hj:j<e)(h1:v.oneCell'=true)
 (h:T W (f (own (some ⟨r,0,none⟩) n c e ((l.set o y).flatMap g))) X):T W L (st ⟨r,o* e+j,none⟩ v X):=fun w hs=>by
 obtain⟨k,hk,e1⟩:=i.at_;have ho:=(adC.1 hx).1;have hle:=D4 (g:=g) hf ho;refine Dw hs hk (by omega) h1 fun w' h'=>h w' ?_;rw[e1,←xF hf hx hy hj];exact h'
def Dr{bytes:Nat}{zero:LV}{len cap:Int}{K:OA→Nat→Nat→WK}(h0:0≤len∧len≤cap∧cap≤9223372036854775807∧cap* bytes≤281474976710656)
 (hK:∀r,T W (own (some ⟨r,0,none⟩) len.toNat cap.toNat zero.length (Builtin.zeroCells ⟨zero⟩ len.toNat).toList::L) (K (some ⟨r,0,none⟩) len.toNat cap.toNat)):T W L (Fx bytes zero len cap K):=fun w hs=>
 M8 hs h0 fun r w' h'=>hK r w' h'
def od{z:α}{zs:LV}(hz:g z=zs)(m:Nat):(Builtin.zeroCells ⟨zs⟩ m).toList=(adQ m z).flatMap g:=by
 subst hz
 induction m with
 |zero=>simp[Builtin.zeroCells]
 |succ m ih=>
  rw[List.replicate_succ',aex,←ih];simp only[Builtin.zeroCells,Array.toList_map,Array.toList_range,aeo,List.flatMap_nil,adV];rw[aeU,Nat.one_mul,List.range_add,ad8,afb]
  congr 1
  show(ae7 (g z).length).map _=g z;apply aeV;intro j;rw[aen];by_cases hj:j<(g z).length
  ·rw[ae3 hj,adA hj];show some _=some _
   congr 1
   simp only[Function.comp];show(⟨g z⟩:Array Value)[(m* (g z).length+j)%(g z).length]! =_;rw[ae',Nat.mul_add_mod,aej hj];simp[hj]
  ·rw[aeB (by simpa using hj),aeB (by omega)];rfl
end
structure Cell where
 key:Nat
 at_:Int
 kind:Int
def lj(c:Cell):LV:=nm c.key++[.i c.at_,.int .u8 c.kind]
def oV(c:Cell):(lj c).length=4:=rfl
instance{c:Cell}:Ln (lj c) 4:=⟨rfl⟩
instance{c:Cell}:Gt (lj c) 3 (.int .u8 c.kind):=⟨rfl⟩
def ux(c:Cell):∀v∈lj c,v.oneCell'=true:=l6 (lC _) fun v h=>by simp at h;rcases h with rfl|rfl<;>rfl
def IN(n1 n2:Int):Int:=IntKind.u64.wrap ((bG .u64 .xor (bG .u64 .xor n1 (shl .u64 n2 31)) (shr .u64 n2 33))* 11400714819323198485)
def IM(x:Int):Int:=bG .u64 .xor x (shr .u64 x 29)
def spread(k:Nat):Int:=IM (IN ((k%18446744073709551616:Nat):Int) ((k/18446744073709551616:Nat):Int))
def Pow(N:Nat):Prop:=∃j,3≤j∧j≤20∧N=2^j
def Pow.ge{N:Nat}(h:Pow N):8≤N:=by
 obtain⟨j,h1,h2,rfl⟩:=h;exact aer (by decide) h1 (n:=2)
def Pow.le{N:Nat}(h:Pow N):N≤1048576:=by
 obtain⟨j,h1,h2,rfl⟩:=h;exact aer (by decide) h2 (n:=2)
def GB{N x:Nat}(h:Pow N)(hx:x<18446744073709551616):bG .u64 .and (x:Int) ((N:Int) -1)=((x%N:Nat):Int):=by
 have h1:=h.ge;have h2:=h.le;obtain⟨j,-,-,rfl⟩:=h;have e:((2^j:Nat):Int) -1=((2^j-1:Nat):Int):=by omega
 rw[e];unfold bG;show IntKind.u64.wrap (((BitVec.ofInt 64 (x:Int)&&&BitVec.ofInt 64 ((2^j-1:Nat):Int)).toNat:Nat):Int)=_;rw[BitVec.toNat_and];have t1:(BitVec.ofInt 64 (x:Int)).toNat=x:=by simp only[BitVec.toNat_ofInt];omega
 have t2:(BitVec.ofInt 64 ((2^j-1:Nat):Int)).toNat=2^j-1:=by simp only[BitVec.toNat_ofInt];omega
 rw[t1,t2,Nat.and_two_pow_sub_one_eq_mod];have:x%2^j≤x:=Nat.mod_le _ _;exact oJ (by omega)
def Nc(op:BinOp)(x y:Int)(h:op=.and∨op=.or∨op=.xor∨op=.andNot):0≤bG .u64 op x y∧bG .u64 op x y<18446744073709551616:=by
 rcases h with h|h|h|h<;>subst h<;>(unfold bG;dsimp only;simp only[IntKind.wrap,IntKind.bits,IntKind.signed];simp;omega)
def hh(N k:Nat):Nat:=(spread k).toNat%N
def Xj{N:Nat}(h:0<N)(k:Nat):hh N k<N:=Nat.mod_lt _ h
def Hc(k:Nat):0≤spread k∧spread k<18446744073709551616:=by
 unfold spread;generalize IN _ _=x;unfold IM;generalize shr .u64 x 29=y;exact Nc .xor x y (by simp)
def Hd{N k:Nat}(h:Pow N):bG .u64 .and (spread k) ((N:Int) -1)=((hh N k:Nat):Int):=by
 obtain⟨h1,h2⟩:=Hc k;unfold hh;generalize spread k=x at h1 h2;obtain⟨n,rfl⟩:∃n:Nat,x=n:=⟨x.toNat,by omega⟩;rw[adB];exact GB h (by omega)
def NF(cs:List Cell)(i:Nat):Prop:=∃c:Cell,cs[i]?=some c∧c.kind≠0
structure TI(cs:List Cell)(m:Nat→Option Int)(u lf:Nat):Prop where
 pow:Pow cs.length
 kinds:∀c∈cs,c.kind=0∨c.kind=1∨c.kind=2
 used:cs.countP (fun c:Cell=>c.kind=1)=u
 left:cs.countP (fun c:Cell=>c.kind=2)=lf
 room:4* (u+lf)≤3* cs.length
 run:∀(i:Nat)(c:Cell),cs[i]?=some c→c.kind=1→∃d,d<cs.length∧i=(hh cs.length c.key+d)%cs.length∧∀j,j<d→NF cs ((hh cs.length c.key+j)%cs.length)
 is:∀(i:Nat)(c:Cell),cs[i]?=some c→c.kind=1→m c.key=some c.at_
 has:∀k v,m k=some v→∃(i:Nat)(c:Cell),cs[i]?=some c∧c.kind=1∧c.key=k
 one:∀(i j:Nat)(c d:Cell),cs[i]?=some c→cs[j]?=some d→c.kind=1→d.kind=1→c.key=d.key→i=j
def NW:∀(cs:List Cell),(∀c∈cs,c.kind=0∨c.kind=1∨c.kind=2)→cs.countP (fun c:Cell=>c.kind=0)+cs.countP (fun c:Cell=>c.kind=1)+cs.countP (fun c:Cell=>c.kind=2)=cs.length
 |[],_=>rfl
 |c::cs,h=>by
  have ih:=NW cs fun d hd=>h d (by simp[hd]);simp only[List.countP_cons,adW];rcases h c (by simp) with e|e|e<;>simp[e]<;>omega
def countP_set{p:Cell→Bool}:∀(cs:List Cell)(i:Nat)(c x:Cell),cs[i]?=some c→(cs.set i x).countP p+(if p c then 1 else 0)=cs.countP p+(if p x then 1 else 0)
 |[],i,c,x,h=>by simp at h
 |d::cs,0,c,x,h=>by
  simp at h;subst h;simp only[List.set_cons_zero,List.countP_cons];omega
 |d::cs,i+1,c,x,h=>by
  have ih:=countP_set (p:=p) cs i c x (by simpa using h);simp only[aeP,List.countP_cons];omega
def TI.free{cs:List Cell}{m:Nat→Option Int}{u lf:Nat}(h:TI cs m u lf)(s:Nat)(ha:∀j,j<cs.length→NF cs ((s+j)%cs.length)):False:=by
 have h8:=h.pow.ge;have hc:=NW cs h.kinds;rw[h.used,h.left] at hc;have h0:0<cs.countP (fun c:Cell=>c.kind=0):=by have:=h.room;omega
 rw[List.countP_pos_iff] at h0;obtain⟨c,hm,hk⟩:=h0;obtain⟨i,hi⟩:=aeT hm;have a8:=(adC.1 hi).1;have e:(s+(i+cs.length-s%cs.length)%cs.length)%cs.length=i:=by
  have h1:s%cs.length<cs.length:=Nat.mod_lt _ (by omega);rw[Nat.add_mod_mod,Nat.add_mod,];have:s+(i+cs.length-s%cs.length)=cs.length* (s/cs.length+1)+i:=by
   have:=Nat.div_add_mod s cs.length;rw[Nat.mul_add];omega
  rw[←Nat.add_mod,this,Nat.mul_add_mod,aej a8]
 obtain⟨d,hd,hn⟩:=ha ((i+cs.length-s%cs.length)%cs.length) (Nat.mod_lt _ (by omega));rw[e,hi] at hd;cases hd
 simp at hk;exact hn hk
structure FR(cs:List Cell)(k p:Nat):Prop where
 place:∃(c:Cell)(d:Nat),cs[p]?=some c∧c.kind≠1∧d<cs.length∧p=(hh cs.length k+d)%cs.length∧∀j,j<d→NF cs ((hh cs.length k+j)%cs.length)
 none_:∀(i:Nat)(c:Cell),cs[i]?=some c→c.kind=1→c.key≠k
def rZ(m:Nat→Option Int)(k:Nat)(v:Option Int):Nat→Option Int:=fun j=>if j=k then v else m j
def NF.set{cs:List Cell}{i p:Nat}{x:Cell}(h:NF cs i)(hx:x.kind≠0):NF (cs.set p x) i:=by
 obtain⟨c,hc,hk⟩:=h;have a8:=(adC.1 hc).1;unfold NF;rw[ad7];by_cases e:p=i
 ·rw[if_pos e,if_pos (by omega)];exact⟨x,rfl,hx⟩
 ·rw[if_neg e];exact⟨c,hc,hk⟩
def TI.xU{cs:List Cell}{m:Nat→Option Int}{u lf k:Nat}(h:TI cs m u lf)(hn:∀(i:Nat)(c:Cell),cs[i]?=some c→c.kind=1→c.key≠k):m k=none:=by
 cases hm:m k with
 |none=>rfl
 |some v=>
  obtain⟨i,c,h1,h2,h3⟩:=h.has k v hm;exact absurd h3 (hn i c h1 h2)
def qO{cs:List Cell}{p i:Nat}{x c:Cell}(h:(cs.set p x)[i]?=some c):(i=p∧c=x∧p<cs.length)∨(i≠p∧cs[i]?=some c):=by
 rw[ad7] at h;by_cases e:p=i
 ·rw[if_pos e] at h;by_cases hl:p<cs.length
  ·rw[if_pos (by omega)] at h;cases h;exact .inl ⟨e.symm,rfl,hl⟩
  ·rw[if_neg (by omega)] at h;cases h
 ·rw[if_neg e] at h;exact .inr ⟨fun h=>e h.symm,h⟩
def TI.put{cs:List Cell}{m:Nat→Option Int}{u lf k p:Nat}{v:Int}{c:Cell}(h:TI cs m u lf)(f:FR cs k p)(hp:cs[p]?=some c)(hr:4* (u+lf+1)≤3* cs.length):
 TI (cs.set p ⟨k,v,1⟩) (rZ m k (some v)) (u+1) (if c.kind=2 then lf-1 else lf):=by
 obtain⟨⟨c',d,F1,hk,hd,hpd,hj⟩,lK⟩:=f;rw[hp] at F1;cases F1
 have a8:=(adC.1 hp).1;have hl:(cs.set p ⟨k,v,1⟩).length=cs.length:=aeF;have c1:=countP_set (p:=fun c:Cell=>c.kind=1) cs p c ⟨k,v,1⟩ hp;have c2:=countP_set (p:=fun c:Cell=>c.kind=2) cs p c ⟨k,v,1⟩ hp;have mQ:c∈cs:=ad3 hp;have hnk:=h.xU lK;rw[h.used] at c1;rw[h.left] at c2;refine⟨by rw[hl];exact h.pow,?_,?_,?_,?_,?_,?_,?_,?_⟩
 ·intro x hx;rcases aeq hx with hx|hx
  ·exact h.kinds x hx
  ·subst hx;exact .inr (.inl rfl)
 ·simp[hk] at c1;simpa using c1
 ·by_cases e:c.kind=2
  ·rw[if_pos e];simp[e] at c2;simpa using by omega
  ·rw[if_neg e];simp[e] at c2;simpa using c2
 ·rw[hl];split<;>omega
 ·rw[hl];intro i x hi hx;rcases qO hi with⟨rfl,rfl,_⟩|⟨ji,hi⟩
  ·exact⟨d,hd,hpd,fun j h1=>(hj j h1).set (show(1:Int)≠0 by decide)⟩
  ·obtain⟨d',h1,h2,h3⟩:=h.run i x hi hx;exact⟨d',h1,h2,fun j h4=>(h3 j h4).set (show(1:Int)≠0 by decide)⟩
 ·intro i x hi hx;rcases qO hi with⟨rfl,rfl,_⟩|⟨ji,hi⟩
  ·simp[rZ]
  ·unfold rZ;rw[if_neg (lK i x hi hx)];exact h.is i x hi hx
 ·intro k' v' xD;unfold rZ at xD;by_cases e:k'=k
  ·subst e;exact⟨p,⟨k',v,1⟩,by rw[ad7,if_pos rfl,if_pos a8],rfl,rfl⟩
  ·rw[if_neg e] at xD;obtain⟨i,x,h1,h2,h3⟩:=h.has k' v' xD;refine⟨i,x,?_,h2,h3⟩;rw[ad7,if_neg]
   ·exact h1
   ·intro e2;subst e2;rw[hp] at h1;cases h1;exact hk h2
 ·intro i j x y hi GY hx hy he;rcases qO hi with⟨rfl,rfl,_⟩|⟨ji,hi⟩<;>rcases qO GY with⟨rfl,rfl,_⟩|⟨aai,GY⟩
  ·rfl
  ·exact absurd he.symm (lK j y GY hy)
  ·exact absurd he (lK i x (by assumption) hx)
  ·exact h.one i j x y (by assumption) (by assumption) hx hy he
def TI.drop{cs:List Cell}{m:Nat→Option Int}{u lf p:Nat}{c:Cell}(h:TI cs m u lf)(hp:cs[p]?=some c)(hk:c.kind=1):
 TI (cs.set p ⟨0,0,2⟩) (rZ m c.key none) (u-1) (lf+1)∧1≤u:=by
 have a8:=(adC.1 hp).1;have hl:(cs.set p ⟨0,0,2⟩).length=cs.length:=aeF;have c1:=countP_set (p:=fun c:Cell=>c.kind=1) cs p c ⟨0,0,2⟩ hp;have c2:=countP_set (p:=fun c:Cell=>c.kind=2) cs p c ⟨0,0,2⟩ hp;rw[h.used] at c1;rw[h.left] at c2;have hu:1≤u:=by simp[hk] at c1;omega
 refine⟨⟨by rw[hl];exact h.pow,?_,?_,?_,by rw[hl];have:=h.room;omega,?_,?_,?_,?_⟩,hu⟩
 ·intro x hx;rcases aeq hx with hx|hx
  ·exact h.kinds x hx
  ·subst hx;exact .inr (.inr rfl)
 ·simp[hk] at c1;simpa using by omega
 ·simp[hk] at c2;simpa using c2
 ·rw[hl];intro i x hi hx;rcases qO hi with⟨rfl,rfl,_⟩|⟨ji,hi⟩
  ·exact absurd hx (by decide)
  ·obtain⟨d',h1,h2,h3⟩:=h.run i x hi hx;exact⟨d',h1,h2,fun j h4=>(h3 j h4).set (by decide)⟩
 ·intro i x hi hx;rcases qO hi with⟨rfl,rfl,_⟩|⟨ji,hi⟩
  ·exact absurd hx (by decide)
  ·have:x.key≠c.key:=fun e=>ji (h.one i p x c hi hp hx hk e);unfold rZ;rw[if_neg this];exact h.is i x hi hx
 ·intro k' v' xD;unfold rZ at xD;by_cases e:k'=c.key
  ·rw[if_pos e] at xD;cases xD
  ·rw[if_neg e] at xD;obtain⟨i,x,h1,h2,h3⟩:=h.has k' v' xD;refine⟨i,x,?_,h2,h3⟩;rw[ad7,if_neg]
   ·exact h1
   ·intro e2;subst e2;rw[hp] at h1;cases h1;exact e h3.symm
 ·intro i j x y hi GY hx hy he;rcases qO hi with⟨rfl,rfl,_⟩|⟨ji,hi⟩<;>rcases qO GY with⟨rfl,rfl,_⟩|⟨aai,GY⟩
  ·rfl
  ·exact absurd hx (by decide)
  ·exact absurd hy (by decide)
  ·exact h.one i j x y (by assumption) (by assumption) hx hy he
def TI.new{N:Nat}(h:Pow N):TI (adQ N ⟨0,0,0⟩) (fun _=>none) 0 0:=by
 refine⟨by rw[aeH];exact h,?_,?_,?_,by omega,?_,?_,?_,?_⟩
 ·intro c hc;rw[List.eq_of_mem_replicate hc];exact .inl rfl
 ·rw[List.countP_replicate];rfl
 ·rw[List.countP_replicate];rfl
 ·intro i c hi hk;have:=List.eq_of_mem_replicate (ad3 hi);subst this;exact absurd hk (by decide)
 ·intro i c hi hk;have:=List.eq_of_mem_replicate (ad3 hi);subst this;exact absurd hk (by decide)
 ·intro k v hk;cases hk
 ·intro i j c d hi hj hk;have:=List.eq_of_mem_replicate (ad3 hi);subst this;exact absurd hk (by decide)
def Seen(cs:List Cell)(k d:Nat):Prop:=∀j,j<d→∃c:Cell,cs[(hh cs.length k+j)%cs.length]?=some c∧c.kind≠0∧¬(c.kind=1∧c.key=k)
def Seen.nf{cs:List Cell}{k d:Nat}(h:Seen cs k d):∀j,j<d→NF cs ((hh cs.length k+j)%cs.length):=fun j hj=>by
 obtain⟨c,h1,h2,_⟩:=h j hj;exact⟨c,h1,h2⟩
def Seen.succ{cs:List Cell}{k d:Nat}{c:Cell}(h:Seen cs k d)(hc:cs[(hh cs.length k+d)%cs.length]?=some c)(h0:c.kind≠0)(h1: ¬(c.kind=1∧c.key=k)):Seen cs k (d+1):=fun j hj=>by
 by_cases e:j=d
 ·subst e;exact⟨c,hc,h0,h1⟩
 ·exact h j (by omega)
def Seen.xU{cs:List Cell}{m:Nat→Option Int}{u lf k d:Nat}{c:Cell}(ht:TI cs m u lf)(h:Seen cs k d)(hd:d<cs.length)(hc:cs[(hh cs.length k+d)%cs.length]?=some c)(h0:c.kind=0):
 ∀(i:Nat)(c:Cell),cs[i]?=some c→c.kind=1→c.key≠k:=by
 intro i x hi hx he;obtain⟨d',h1,h2,h3⟩:=ht.run i x hi hx;rw[he] at h2 h3;by_cases e1:d'<d
 ·obtain⟨y,g1,g2,g3⟩:=h d' e1;rw[←h2,hi] at g1;cases g1;exact g3 ⟨hx,he⟩
 ·by_cases e2:d<d'
  ·obtain⟨y,g1,g2⟩:=h3 d e2;rw[hc] at g1;cases g1;exact g2 h0
  ·have:d=d':=by omega
   subst this;rw[←h2,hi] at hc;cases hc;rw[h0] at hx;cases hx
section
variable {y z:Cell} {x1 x2 x3 x4:Value}
instance:Wr [x1,x2,x3,x4] 0 (lj y) (lj y):=⟨rfl,adG _,ux y⟩
instance:Sub (lj y) 0 2 (nm y.key):=⟨uC rfl rfl⟩
instance:Sub (lj y) 0 4 (lj y):=⟨rfl,fun j v h=>by rw[adE];exact h⟩
end
def me(t:Nat)(x:(Nat→Option Int)×Nat):HP:=
 Sq fun q:OA×Nat×List Cell×Nat=>Lm (TI q.2.2.1 x.1 x.2 q.2.2.2) (sep (Sep.pt t [.l q.1 q.2.2.1.length q.2.1,.i (x.2:Int),.i (q.2.2.2:Int)]) (own q.1 q.2.2.1.length q.2.1 4 (q.2.2.1.flatMap lj)))
section
variable {W:World} {L:LH} {K:VK} {X:WK} {t:Nat} {x:(Nat→Option Int)×Nat} {f:(Nat→Option Int)×Nat→LH}
def Mc[i:Lc (me t) L x f](h:∀b c cs lf R,TI cs x.1 x.2 lf→(∀b' c' rm u' GR m' Y,TI rm m' u' GR→T W (f (m',u')) Y→T W (Sep.pt t [.l b' rm.length c',.i (u':Int),.i (GR:Int)]::own b' rm.length c' 4 (rm.flatMap lj)::R) Y)→
 T W (Sep.pt t [.l b cs.length c,.i (x.2:Int),.i (lf:Int)]::own b cs.length c 4 (cs.flatMap lj)::R) X):T W L X:=
 Mf (P:=me t) fun R hc w hs=>by
  obtain⟨⟨b,c,cs,lf⟩,hs⟩:=hs.ex;obtain⟨ht,hs⟩:=hs.and;refine h b c cs lf R ht (fun b' c' rm u' GR m' Y FK hy w h'=>hc (m',u') Y hy w ?_) w hs.split;exact St.ow (b',c',rm,GR) (St.and_intro FK (St.join h'))
def T.ZJ{A B C:HP}{R:LH}(h:T W (A::B::C::R) X):T W (C::A::B::R) X:=T.perm h (aeM (l₁:=[A,B])).symm
def My{k:Nat}(h:T W L (K (.u (spread k)))):T W L (lZ (nm k) K):=by
 unfold lZ
 repeat' first|apply ww|apply wm;intro _|apply wb|with_reducible refine c9 (by decide) ?_|fail
 refine T.fin (T.dp h) ?_
 rfl
def SN{N:Nat}(h1:1≤N)(h2:N≤1048576):IntKind.u64.wrap (adx.wrap ((N:Int) -1))=(N:Int) -1:=by
 rw[ah (by omega)];obtain⟨n,hn⟩:∃n:Nat,(N:Int) -1=n:=⟨N-1,by omega⟩;rw[hn];exact oJ (by omega)
def Cr{N a d:Nat}(ha:a<N)(hd:d<N):((a+d)%N+N-a)%N=d:=by
 by_cases h:a+d<N
 ·rw[aej h,show a+d+N-a=N+d by omega,Nat.add_mod_left,aej hd]
 ·have:(a+d)%N=a+d-N:=by rw[Nat.mod_eq_sub_mod (by omega),aej (by omega)]
  rw[this,show a+d-N+N-a=d by omega,aej hd]
def Mx{N a d:Nat}(hN:Pow N):bG .u64 .and (IntKind.u64.wrap ((((a+d)%N:Nat):Int)+1)) ((N:Int) -1)=(((a+(d+1))%N:Nat):Int):=by
 have h1:=hN.le;have h2:=hN.ge;have h3:(a+d)%N<N:=Nat.mod_lt _ (by omega);rw[show(((a+d)%N:Nat):Int)+1=(((a+d)%N+1:Nat):Int) by omega,oJ (by omega),GB hN (by omega)]
 congr 1
 rw[Nat.mod_add_mod];rfl
def D5{b:OA}{c u lf k:Nat}{cs:List Cell}{m:Nat→Option Int}{x1 x2:Value}{f:LV→LH}{g:HP→LH}[i:Lc (Sep.pt t) L [.l b cs.length c,x1,x2] f][j:pa b cs.length c L 4 (cs.flatMap lj) g](ht:TI cs m u lf)
 (h1:∀(i:Nat)(y:Cell),cs[i]?=some y→y.kind=1→y.key=k→T W L (K (.tuple ⟨[.i (i:Int),.bool true]⟩)))
 (h2:∀p:Nat,FR cs k p→T W L (K (.tuple ⟨[.i (p:Int),.bool false]⟩))):T W L (bt (some ⟨t,0,none⟩) (nm k) K):=by
 have hN8:=ht.pow.ge;have hNl:=ht.pow.le;have Xi:=Xj (N:=cs.length) (by omega) k;unfold bt
 repeat' first|apply ww|apply wm;intro _|apply wb|with_reducible refine My ?_|fail
 rename_i r1;intro w hs;rw[SN (by omega) hNl,Hd ht.pow];refine⟨fun vs w=>∃(d:Nat)(put:Int),d<cs.length∧Seen cs k d∧(put= -1∨∃(dp:Nat)(z:Cell),dp<d∧put=(((hh cs.length k+dp)%cs.length:Nat):Int)∧cs[(hh cs.length k+dp)%cs.length]?=some z∧z.kind=2)∧
                           vs=[.p (some (ad r1 0)),.i 0,.bool false,.u ((cs.length:Int) -1),.i put,.u (((hh cs.length k+d)%cs.length:Nat):Int)]∧St W w (Sep.pt r1 (nm k)::L),
  fun vs _=>match vs with|[_,_,_,_,_,.int _ n]=>cs.length-(n.toNat+cs.length-hh cs.length k)%cs.length|_=>0,
  ⟨0,-1,by omega,fun j hj=>by omega,.inl rfl,by rw[aev,aej Xi],hs⟩,?_⟩
 rintro a1 n1 b1 n2 put n4 w2 ⟨d,ada,hd,FL,KI,e,hs⟩;cases e
 refine T.at ?_ hs;have a8:(hh cs.length k+d)%cs.length<cs.length:=Nat.mod_lt _ (by omega);have hy:=adA a8;generalize cs[(hh cs.length k+d)%cs.length]=y at hy;have mQ:y∈cs:=ad3 hy;have ewr:adx.wrap (((hh cs.length k+d)%cs.length:Nat):Int)=(((hh cs.length k+d)%cs.length:Nat):Int):=ah (by omega)
 repeat' first|apply ww|apply wm;intro _|apply wb
 refine bV ⟨by omega,by omega⟩ fun r hr=>?_;subst hr;rw[adB];refine dV oV hy ?_;have next:∀(r2:Nat)(MP:Int),y.kind≠0→¬(y.kind=1∧y.key=k)→(MP=put∨MP=(((hh cs.length k+d)%cs.length:Nat):Int)∧y.kind=2)→
                                                        T W (Sep.pt r2 (lj y)::Sep.pt r1 (nm k)::L) (fun w4=>(∃(d':Nat)(put:Int),d'<cs.length∧Seen cs k d'∧(put= -1∨∃(dp:Nat)(z:Cell),dp<d'∧put=(((hh cs.length k+dp)%cs.length:Nat):Int)∧cs[(hh cs.length k+dp)%cs.length]?=some z∧z.kind=2)∧
                                                        [Value.pointer (some (ad r1 0)),.i 0,.bool false,.u ((cs.length:Int) -1),.i MP,.u (((hh cs.length k+(d+1))%cs.length:Nat):Int)]=[.p (some (ad r1 0)),.i 0,.bool false,.u ((cs.length:Int) -1),.i put,.u (((hh cs.length k+d')%cs.length:Nat):Int)]∧St W w4 (Sep.pt r1 (nm k)::L))∧
                                                        cs.length-((((hh cs.length k+(d+1))%cs.length:Nat):Int).toNat+cs.length-hh cs.length k)%cs.length<cs.length-((((hh cs.length k+d)%cs.length:Nat):Int).toNat+cs.length-hh cs.length k)%cs.length):=by
  intro r2 MP k0 k1 hp';have Nf:=FL.succ hy k0 k1;have Sj:d+1<cs.length:=by
   by_cases hc:d+1<cs.length
   ·exact hc
   ·exact absurd (fun j hj=>Nf.nf j (by omega)) fun hh=>ht.free _ hh
  refine T.drop fun w3 h3=>⟨⟨d+1,MP,Sj,Nf,?_,rfl,h3⟩,?_⟩
  ·rcases hp' with rfl|⟨rfl,h2k⟩
   ·exact KI.imp id fun⟨dp,z,g1,g2,g3,g4⟩=>⟨dp,z,by omega,g2,g3,g4⟩
   ·exact .inr ⟨d,y,by omega,rfl,hy,h2k⟩
  ·rw[adB,adB,Cr Xi hd,Cr Xi Sj];omega
 repeat' first|apply ww|apply wm;intro _|apply wb
 rename_i r2;unfold bt.j1 bt.j2 bt.j3;simp only[Mx ht.pow,ewr];refine az (fun g0=>?_) (fun g0=>?_)
 ·have k0:y.kind=0:=by simpa using g0
  refine az (fun g1=>?_) (fun g1=>?_)
  ·refine T.drop (T.drop (h2 _ ⟨⟨y,d,hy,by omega,hd,rfl,FL.nf⟩,FL.xU ht hd hy k0⟩))
  ·have g2: ¬put<0:=by simpa using g1
   repeat' first|apply ww|apply wm;intro _|apply wb
   refine lh (by simpa using k0) ?_;rcases KI with rfl|⟨dp,z,q1,rfl,q3,q4⟩
   ·omega
   ·refine T.drop (T.drop (h2 _ ⟨⟨z,dp,q3,by omega,by omega,rfl,fun j hj=>FL.nf j (by omega)⟩,FL.xU ht hd hy k0⟩))
 ·have k0:y.kind≠0:=by simpa using g0
  repeat' first|apply ww|apply wm;intro _|apply wb
  refine fx (by simpa using k0) ?_
  repeat' first|apply ww|apply wm;intro _|apply wb
  refine az (fun g1=>?_) (fun g1=>?_)
  ·have k2:y.kind=2:=by simpa using g1
   refine az (fun g2=>?_) (fun g2=>?_)
   ·exact next r2 _ k0 (by omega) (.inr ⟨rfl,k2⟩)
   ·repeat' first|apply ww|apply wm;intro _|apply wb
    refine fx (by rw[k2];rfl) ?_
    repeat' first|apply ww|apply wm;intro _|apply wb
    exact next r2 put k0 (by omega) (.inl rfl)
  ·have k1:y.kind=1:=by
    have:=ht.kinds y mQ;have:y.kind≠2:=by simpa using g1
    omega
   repeat' first|apply ww|apply wm;intro _|apply wb
   refine lh (by rw[k1];rfl) ?_
   repeat' first|apply ww|apply wm;intro _|apply wb
   refine az (fun g2=>?_) (fun g2=>?_)
   ·refine T.drop (T.drop (h1 _ y hy k1 (by simpa using g2)))
   ·exact next r2 put k0 (fun hh=>by simp[hh.2] at g2) (.inl rfl)
def yO{k:Nat}[i:Lc (me t) L x f](h:T W L (K (.tuple ⟨[.i ((x.1 k).getD 0),.bool (x.1 k).isSome]⟩))):T W L (dx (some ⟨t,0,none⟩) (nm k) K):=by
 unfold dx;refine qD fun r1=>fx rfl ?_
 repeat' first|apply ww|apply wm;intro _|apply wb
 refine Mc (t:=t) fun b c cs lf R ht hc=>?_;have close:=hc b c cs x.2 lf x.1;have hL:f (x.1,x.2)=L:=i.same;rw[←hL] at h;refine D5 ht (fun i y hy hk he=>?_) (fun p hp=>?_)
 ·repeat' first|apply ww|apply wm;intro _|apply wb
  have a8:=(adC.1 hy).1;refine bV ⟨by omega,by omega⟩ fun r hr=>?_;subst hr;rw[adB];refine Mj ?_;refine z7 (r:=r) (j:=2) oV hy rfl ?_
  repeat' first|apply ww|apply wm;intro _|apply wb
  have e:=ht.is i y hy hk;rw[he] at e;rw[e] at h;exact close _ ht (T.drop h)
 ·repeat' first|apply ww|apply wm;intro _|apply wb
  rw[ht.xU hp.none_] at h;exact close _ ht (T.drop h)
def OH{k:Nat}[i:Lc (me t) L x f](hu:x.2≤1000)(h:(x.1 k).isSome=true→T W (f (rZ x.1 k none,x.2-1)) (K (.bool true)))(h0:x.1 k=none→T W L (K (.bool false))):T W L (iv (some ⟨t,0,none⟩) (nm k) K):=by
 unfold iv;refine qD fun r1=>fx rfl ?_
 repeat' first|apply ww|apply wm;intro _|apply wb
 refine Mc (t:=t) fun b c cs lf R ht hc=>?_;have hL:f (x.1,x.2)=L:=i.same;rw[←hL] at h0;refine D5 ht (fun i y hy hk he=>?_) (fun p hp=>?_)
 ·repeat' first|apply ww|apply wm;intro _|apply wb
  have a8:=(adC.1 hy).1;refine bV ⟨by omega,by omega⟩ fun r hr=>?_;subst hr;rw[adB];have hN:=ht.pow.le;have yw:=ht.room;obtain⟨FK,hu1⟩:=ht.drop hy hk;rw[he] at FK;have e:=ht.is i y hy hk;rw[he] at e;refine c9 rfl ?_;show T W _ (iN _ (lj ⟨0,0,2⟩) _);refine nF oV a8 (ux _) ?_
  repeat' first|apply ww|apply wm;intro _|apply wb
  rw[ah (by omega),ah (by omega),show(x.2:Int) -1=((x.2-1:Nat):Int) by omega,show(lf:Int)+1=((lf+1:Nat):Int) by omega];have:=hc (some ⟨r,0,none⟩) c _ _ _ _ _ FK (T.drop (h (by rw[e];rfl)));rw[aeF] at this;exact this
 ·repeat' first|apply ww|apply wm;intro _|apply wb
  exact hc _ _ _ _ _ _ _ ht (T.drop (h0 (ht.xU hp.none_)))
structure Part(cs:List Cell)(i:Nat)(m':Nat→Option Int)(u':Nat):Prop where
 to:∀(k:Nat)(v:Int),m' k=some v→∃(j:Nat)(y:Cell),j<i∧cs[j]?=some y∧y.kind=1∧y.key=k∧y.at_=v
 from_:∀(j:Nat)(y:Cell),j<i→cs[j]?=some y→y.kind=1→m' y.key=some y.at_
 n:u'=(cs.take i).countP (fun c:Cell=>c.kind=1)
def Part.same{cs:List Cell}{m m':Nat→Option Int}{u lf u':Nat}(ht:TI cs m u lf)(hp:Part cs cs.length m' u'):m'=m∧u'=u:=by
 constructor
 ·funext k
  cases hm:m' k with
  |some v=>
   obtain⟨j,y,h1,h2,h3,h4,h5⟩:=hp.to k v hm;have:=ht.is j y h2 h3;rw[h4,h5] at this;exact this.symm
  |none=>
   cases hk:m k with
   |none=>rfl
   |some v=>
    obtain⟨j,y,h2,h3,h4⟩:=ht.has k v hk;have:=hp.from_ j y (adC.1 h2).1 h2 h3;rw[h4,hm] at this;cases this
 ·rw[hp.n,adN,ht.used]
def tr(cs:List Cell)(p:Cell→Bool){i:Nat}{y:Cell}(hy:cs[i]?=some y):(cs.take (i+1)).countP p=(cs.take i).countP p+(if p y then 1 else 0):=by
 have a8:=(adC.1 hy).1;rw[aeu a8,List.countP_append];have:cs[i]=y:=by rw[adA a8] at hy;exact adU.inj hy
 rw[this,List.countP_singleton]
def Uu{b:OA}{c u lf:Nat}{cs:List Cell}{m:Nat→Option Int}{R:LH}(ht:TI cs m u lf)(hu:u≤1000)
 (h:∀b' c' rm,TI rm m u 0→3* (u+1)≤rm.length→T W (Sep.pt t [.l b' rm.length c',.i (u:Int),.i 0]::own b' rm.length c' 4 (rm.flatMap lj)::R) (K (.tuple ⟨[]⟩))):
 T W (Sep.pt t [.l b cs.length c,.i (u:Int),.i (lf:Int)]::own b cs.length c 4 (cs.flatMap lj)::R) (ja (some ⟨t,0,none⟩) K):=by
 unfold ja;have hN8:=ht.pow.ge;have hNl:=ht.pow.le
 repeat' first|apply ww|apply wm;intro _|apply wb
 intro w hs;refine⟨fun vs w=>∃n:Nat,Pow n∧n≤6* (u+1)+8∧vs=[.l b cs.length c,.i (n:Int)]∧St W w (Sep.pt t [.l b cs.length c,.i (u:Int),.i (lf:Int)]::own b cs.length c 4 (cs.flatMap lj)::R),
  fun vs _=>match vs with|[_,.int _ n]=>3* (u+1) -n.toNat|_=>0,⟨8,⟨3,by decide,by decide,rfl⟩,by omega,rfl,hs⟩,?_⟩
 rintro uF qg uE n1 w2 ⟨n,hn,hnb,e,hs⟩;cases e
 refine T.at ?_ hs;have hn8:=hn.ge
 repeat' first|apply ww|apply wm;intro _|apply wb
 rw[ah (show-9223372036854775808≤(u:Int)+1∧(u:Int)+1≤9223372036854775807 by omega),ah (by omega)];refine az (fun h1=>?_) (fun h1=>?_)
 ·have h1:(n:Int)<3* ((u:Int)+1):=of_decide_eq_true h1;rw[ah (by omega)];refine fun w3 h3=>⟨⟨n* 2,?_,by omega,by rw[show(n:Int)* 2=((n* 2:Nat):Int) by omega],h3⟩,?_⟩
  ·obtain⟨j,j1,j2,j3⟩:=hn;refine⟨j+1,by omega,?_,by rw[Nat.pow_succ,j3]⟩;by_cases hj:j+1≤20
   ·exact hj
   ·have:j=20:=by omega
    subst this;have:n=1048576:=by rw[j3]
    omega
  ·show 3* (u+1) -((n:Int)* 2).toNat<3* (u+1) -(n:Int).toNat;omega
 have h1: ¬(n:Int)<3* ((u:Int)+1):=of_decide_eq_false h1;refine Dr ⟨by omega,by omega,by omega,by omega⟩ fun r=>?_;rw[adB,od (g:=lj) (z:=⟨0,0,0⟩) (zs:=[.u 0,.u 0,.i 0,.int .u8 0]) rfl];show T W (own (some ⟨r,0,none⟩) n n 4 ((adQ n (⟨0,0,0⟩:Cell)).flatMap lj)::_) _
 repeat' first|apply ww|apply wm;intro _|apply wb
 intro w4 hs;refine⟨fun vs w=>∃(i:Nat)(rm:List Cell)(m':Nat→Option Int)(u':Nat),i≤cs.length∧rm.length=n∧TI rm m' u' 0∧Part cs i m' u'∧vs=[.l b cs.length c,.i (cs.length:Int),.i (i:Int)]∧
  St W w (own (some ⟨r,0,none⟩) n n 4 (rm.flatMap lj)::Sep.pt t [.l (some ⟨r,0,none⟩) n n,.i (u:Int),.i 0]::own b cs.length c 4 (cs.flatMap lj)::R),
  fun vs _=>match vs with|[_,_,.int _ i]=>cs.length-i.toNat|_=>0,
  ⟨0,adQ n ⟨0,0,0⟩,fun _=>none,0,by omega,aeH,TI.new hn,⟨(fun k v hh=>by cases hh),(fun j y hj=>by omega),by simp⟩,rfl,hs⟩,?_⟩
 rintro yV yg yU n3 n4 w5 ⟨i,rm,m',u',hi,GX,FK,hp,e,hs⟩;cases e
 refine T.at ?_ hs;refine az (fun g1=>?_) (fun g1=>?_)
 ·have a8:i<cs.length:=by have:=of_decide_eq_true g1;omega
  have e5:adx.wrap ((i:Int)+1)=((i+1:Nat):Int):=by rw[ah (by omega)];omega
  have hy:=adA a8;generalize cs[i]=y at hy;have hut:u'+(if y.kind=1 then 1 else 0)≤u:=by
   have e1:=tr cs (fun c:Cell=>c.kind=1) hy;have e2:(cs.take (i+1)).countP (fun c:Cell=>c.kind=1)≤cs.countP (fun c:Cell=>c.kind=1):=(List.take_sublist _ _).countP_le;rw[ht.used,e1,←hp.n] at e2;simpa using e2
  refine bV ⟨by omega,by omega⟩ fun rb TV=>?_;subst TV;rw[adB];refine dV oV hy ?_
  repeat' first|apply ww|apply wm;intro _|apply wb
  rw[e5];refine az (fun g2=>?_) (fun g2=>?_)
  ·have k1:y.kind=1:=by simpa using g2
   rw[if_pos k1] at hut
   repeat' first|apply ww|apply wm;intro _|apply wb
   subst GX;have lK:m' y.key=none:=by
    cases hm:m' y.key with
    |none=>rfl
    |some v=>
     obtain⟨j,z,q1,q2,q3,q4,q5⟩:=hp.to _ _ hm;have:=ht.one j i z y q2 hy q3 k1 q4;omega
   refine D5 FK (fun i2 z hz hk he=>?_) (fun p KQ=>?_)
   ·have:=FK.is i2 z hz hk;rw[he,lK] at this;cases this
   repeat' first|apply ww|apply wm;intro _|apply wb
   obtain⟨z,d,hz,TH,_⟩:=KQ.place;have KK:=(adC.1 hz).1;refine pn ⟨by omega,by omega⟩ ?_;rw[adB]
   repeat' first|apply ww|apply wm;intro _|apply wb
   refine nF oV KK (ux _) ?_;have HB:=FK.put (v:=y.at_) KQ hz (by omega);have ZY:z.kind≠2:=fun hh=>by
    have:=List.countP_eq_zero.1 FK.left z (ad3 hz);simp[hh] at this
   rw[if_neg ZY] at HB;have ey:(⟨y.key,y.at_,1⟩:Cell)=y:=by rw[←k1]
   rw[ey] at HB;refine T.drop fun w6 h6=>⟨⟨i+1,rm.set p y,rZ m' y.key (some y.at_),u'+1,a8,aeF,HB,⟨?_,?_,?_⟩,rfl,h6⟩,by show cs.length-((i+1:Nat):Int).toNat<cs.length-(i:Int).toNat;omega⟩
   ·intro k v hk;unfold rZ at hk;by_cases ek:k=y.key
    ·rw[if_pos ek] at hk;cases hk;exact⟨i,y,by omega,hy,k1,ek.symm,rfl⟩
    ·rw[if_neg ek] at hk;obtain⟨j,z,q1,q2⟩:=hp.to k v hk;exact⟨j,z,by omega,q2⟩
   ·intro j z hj OP TH;unfold rZ;by_cases ek:z.key=y.key
    ·have:=ht.one j i z y OP hy TH k1 ek;subst this;rw[hy] at OP;cases OP
     rw[if_pos rfl]
    ·rw[if_neg ek];refine hp.from_ j z ?_ OP TH;by_cases ej:j=i
     ·subst ej;rw[hy] at OP;cases OP;exact absurd rfl ek
     ·omega
   ·rw[tr cs _ hy,hp.n];simp[k1]
  ·have k1: ¬y.kind=1:=by simpa using g2
   refine T.drop fun w6 h6=>⟨⟨i+1,rm,m',u',a8,GX,FK,⟨?_,?_,?_⟩,rfl,h6⟩,by show cs.length-((i+1:Nat):Int).toNat<cs.length-(i:Int).toNat;omega⟩
   ·intro k v hk;obtain⟨j,z,q1,q2⟩:=hp.to k v hk;exact⟨j,z,by omega,q2⟩
   ·intro j z hj OP TH;refine hp.from_ j z ?_ OP TH;by_cases ej:j=i
    ·subst ej;rw[hy] at OP;cases OP;exact absurd TH k1
    ·omega
   ·rw[tr cs _ hy,hp.n];simp[k1]
 ·have he:i=cs.length:=by have:=of_decide_eq_false g1;omega
  subst he;obtain⟨rfl,rfl⟩:=hp.same ht;subst GX;have:=h (some ⟨r,0,none⟩) rm.length rm FK (by omega);exact fun w hs=>this w ((hs.perm (ad2.swap _ _ _)).focus (k:=2) rfl).drop
def Fk{b:OA}{c u lf k:Nat}{v:Int}{cs:List Cell}{m:Nat→Option Int}{R:LH}{r1:Nat}{g:LV→LH}[i:Lc (Sep.pt r1) R (nm k) g](ht:TI cs m u lf)(hr:4* (u+lf+1)≤3* cs.length)(hk:m k=none)
 (h:∀b' c' rm GR,TI rm (rZ m k (some v)) (u+1) GR→T W (Sep.pt t [.l b' rm.length c',.i ((u+1:Nat):Int),.i (GR:Int)]::own b' rm.length c' 4 (rm.flatMap lj)::R) (K (.bool true))):
 T W (Sep.pt t [.l b cs.length c,.i (u:Int),.i (lf:Int)]::own b cs.length c 4 (cs.flatMap lj)::R) (bT.j1 K r1 (some ⟨t,0,none⟩) v):=by
 unfold bT.j1
 repeat' first|apply ww|apply wm;intro _|apply wb
 refine D5 ht (fun i2 z hz Xd he=>?_) (fun p KQ=>?_)
 ·have:=ht.is i2 z hz Xd;rw[he,hk] at this;cases this
 obtain⟨z,d,hz,TH,_⟩:=KQ.place;have KK:=(adC.1 hz).1;have hN:=ht.pow.le
 repeat' first|apply ww|apply wm;intro _|apply wb
 refine bV ⟨by omega,by omega⟩ fun r hr=>?_;subst hr;rw[adB];simp only[ft,adE];refine z7 (r:=r) (j:=3) oV hz rfl ?_;have HB:=ht.put (v:=v) KQ hz hr;have Wl:∀GR:Nat,GR=(if z.kind=2 then lf-1 else lf)→T W (Sep.pt t [.l (some ⟨r,0,none⟩) cs.length c,.i (u:Int),.i (GR:Int)]::own (some ⟨r,0,none⟩) cs.length c 4 (cs.flatMap lj)::R) (bT.j2 K (some ⟨t,0,none⟩) r1 (p:Int) v):=by
  intro GR hlf;unfold bT.j2
  repeat' first|apply ww|apply wm;intro _|apply wb
  refine pn ⟨by omega,by omega⟩ ?_;rw[adB];refine c9 rfl ?_;show T W _ (iN _ (lj ⟨k,v,1⟩) _);refine nF oV KK (ux _) ?_
  repeat' first|apply ww|apply wm;intro _|apply wb
  have yw:=ht.room;rw[ah (by omega),show(u:Int)+1=((u+1:Nat):Int) by omega];have:=h (some ⟨r,0,none⟩) c (cs.set p ⟨k,v,1⟩) GR (by rw[hlf];exact HB);rw[aeF] at this;exact this
 have yw:=ht.room
 repeat' first|apply ww|apply wm;intro _|apply wb
 refine az (fun g2=>?_) (fun g2=>?_)
 ·have k2:z.kind=2:=by simpa using g2
  have h1:1≤lf:=by
   rw[←ht.left];exact List.countP_pos_iff.2 ⟨z,ad3 hz,by simpa using k2⟩
  repeat' first|apply ww|apply wm;intro _|apply wb
  rw[ah (by omega),show(lf:Int) -1=((lf-1:Nat):Int) by omega];exact Wl (lf-1) (by rw[if_pos k2])
 ·have k2: ¬z.kind=2:=by simpa using g2
  exact Wl lf (by rw[if_neg k2])
def JT{k:Nat}{v:Int}[i:Lc (me t) L x f](hu:x.2≤1000)(hk:x.1 k=none)(h:T W (f (rZ x.1 k (some v),x.2+1)) (K (.bool true))):T W L (bT (some ⟨t,0,none⟩) (nm k) v K):=by
 refine Mc (t:=t) fun b c cs lf R ht hc=>?_;unfold bT;refine qD fun r1=>fx rfl ?_;refine T.ZJ ?_;have hN:=ht.pow.le;have yw:=ht.room;have fin:∀b' c' rm GR,TI rm (rZ x.1 k (some v)) (x.2+1) GR→T W (Sep.pt t [.l b' rm.length c',.i ((x.2+1:Nat):Int),.i (GR:Int)]::own b' rm.length c' 4 (rm.flatMap lj)::Sep.pt r1 (nm k)::R) (K (.bool true)):=
  fun b' c' rm GR FK w hs=>hc _ _ _ _ _ _ _ FK h w (hs.focus (k:=2) rfl).drop
 have TM:adx.wrap ((x.2:Int)+lf)=(x.2:Int)+lf:=ah (by omega);have TL:adx.wrap ((x.2:Int)+lf+1)=(x.2:Int)+lf+1:=ah (by omega);have WL:adx.wrap (4* ((x.2:Int)+lf+1))=4* ((x.2:Int)+lf+1):=ah (by omega);have Z7:adx.wrap (3* (cs.length:Int))=3* (cs.length:Int):=ah (by omega)
 repeat' first|apply ww|apply wm;intro _|apply wb
 rw[TM,TL,WL,Z7];refine az (fun g=>?_) (fun g=>?_)
 ·refine Uu ht hu fun b' c' rm FK GX=>?_
  repeat' first|apply ww|apply wm;intro _|apply wb
  exact Fk (lf:=0) FK (by omega) hk fin
 ·have:=of_decide_eq_false g;exact Fk ht (by omega) hk fin
def SA(h:∀t,T W (me t (fun _=>none,0)::L) (K (.p (some ⟨t,0,none⟩)))):T W L (nR K):=by
 unfold nR;refine Dr ⟨by decide,by decide,by decide,by decide⟩ fun r=>?_;rw[show((8:Int).toNat)=8 from rfl,od (g:=lj) (z:=⟨0,0,0⟩) (zs:=[.u 0,.u 0,.i 0,.int .u8 0]) rfl]
 repeat' first|apply ww|apply wm;intro _|apply wb
 rename_i r1;refine fun w hs=>h r1 w ?_;exact St.ow (some ⟨r,0,none⟩,8,adQ 8 ⟨0,0,0⟩,0) (St.and_intro (TI.new ⟨3,by decide,by decide,rfl⟩) (St.join hs))
end
section
variable {W:World} {L:LH} {K:VK} {X:WK} {α:Type} {r o:Nat} {pre post:LV} {g:α→LV} {e:Nat} {l:List α} {f:List α→LH}
def gB{e:Nat}(h:T W (own none 0 0 e []::L) X):T W L X:=fun w hs=>h w (hs.push (o5 e))
def jm{b:OA}{n c bytes r1:Nat}{zero:LV}{x:α}{ys:LV}{f:HP→LH}{f1:LV→LH}{K:OA→Nat→Nat→WK}[i:pa b n c L e (l.flatMap g) f][j:Lc (Sep.pt r1) L ys f1](hy:ys=g x)(hg:(g x).length=e)(hz:zero.length=e)
 (hb:(n+1)* bytes≤140737488355328)(hm:n+1≤9223372036854775807)(h1:∀v∈g x,v.oneCell'=true)(h:∀b' c',T W (f (own b' (n+1) c' e ((l++[x]).flatMap g))) (K b' (n+1) c')):T W L (gj e bytes zero b n c (some ⟨r1,0,none⟩) 1 K):=by
 refine Mr (ys:=ys) (by rw[hy];exact hg) hz hb (by rw[hy];exact h1) (fun b' c'=>?_) hm;have:=h b' c';rw[aex] at this;simpa [hy] using this
def AA{b:OA}{n c e i:Nat}{xs:LV}(hi:i≤n):∀h,own b n c e xs h→own b i c e (xs.take (i* e)) h:=fun h=>by
 rintro⟨hl,h0|⟨r,sp,hb,qM,yt,hp⟩⟩
 ·obtain⟨rfl,rfl,rfl⟩:=h0;have:i=0:=by omega
  subst this;exact⟨by simp,.inl ⟨rfl,rfl,rfl⟩⟩
 ·have VD:i* e≤n* e:=aem e hi;refine⟨by rw[adF];omega,.inr ⟨r,xs.drop (i* e)++sp,hb,by omega,?_,?_⟩⟩
  ·rw[adD,adM,yt,hl,Nat.sub_mul,Nat.sub_mul];have:n* e≤c* e:=aem e qM;omega
  ·rw[←adI,ad5];exact hp
def C6{g:α→LV}(hg:∀x,(g x).length=e):∀(l:List α)(i:Nat),(l.flatMap g).take (i* e)=(l.take i).flatMap g
 |[],i=>by simp
 |x::l,0=>by simp
 |x::l,i+1=>by
  rw[aeo,List.take_succ_cons,aeo,←C6 hg l i,show(i+1)* e=(g x).length+i* e by rw[hg,aeU];omega,List.take_length_add_append]
def vN{b:OA}{n c i:Nat}{f:HP→LH}[j:pa b n c L e (l.flatMap g) f](hg:∀x,(g x).length=e)(hi:i≤n)(h:T W (f (own b i c e ((l.take i).flatMap g))) X):T W L X:=fun w hs=>by
 obtain⟨k,hk,e1⟩:=j.at_;refine h w ?_;rw[e1,←C6 hg];exact St.og ((hs.focus hk).mono (AA hi)) hk
def u3{b:OA}{n c i:Nat}{K:OA→Nat→Nat→WK}(hi:i≤c)(h:T W L (K b i c)):T W L (oC b n c e none (some (i:Int)) K):=by
 unfold oC;refine c9 ⟨by omega,by omega⟩ ?_;dsimp only;rw[RR,adB];exact h
def ny{b:OA}{n c:Nat}{f:HP→LH}{xs:LV}[j:pa b n c L e xs f](h:n≤c→xs.length=n* e→T W L X):T W L X:=fun w hs=>by
 obtain⟨k,hk,_⟩:=j.at_;obtain⟨hl,h0|⟨r,sp,hb,qM,_⟩⟩:=hs.mz hk
 ·exact h (by omega) hl w hs
 ·exact h qM hl w hs
end
abbrev ln:=Int×Int
def mh(p:ln):LV:=[.i p.1,.i p.2]
def lA(p:ln):(mh p).length=2:=rfl
instance{p:ln}:Ln (mh p) 2:=⟨rfl⟩
instance{p:ln}:Gt (mh p) 1 (.i p.2):=⟨rfl⟩
def pW(p:ln):∀v∈mh p,v.oneCell'=true:=fun v h=>by simp[mh] at h;rcases h with rfl|rfl<;>rfl
instance{x1 x2:Value}{p:ln}:Wr [x1,x2] 0 (mh p) (mh p):=⟨rfl,adG _,pW p⟩
def pos(s:Int):List ln→Nat
 |[]=>0
 |p::l=>if p.1<s then pos s l+1 else 0
def DH(s:Int):∀l:List ln,pos s l≤l.length
 |[]=>adG _
 |p::l=>by unfold pos;split<;>simp;exact DH s l
def oY(l:List ln):Prop:=l.Pairwise fun a b=>a.1<b.1
def Hq(s:Int):∀(l:List ln)(i:Nat),i≤l.length→(∀(j:Nat)(p:ln),j<i→l[j]?=some p→p.1<s)→(∀(j:Nat)(p:ln),i≤j→l[j]?=some p→s≤p.1)→i=pos s l
 |[],i,hi,_,_=>by simp at hi;subst hi;rfl
 |q::l,0,hi,h1,h2=>by
  unfold pos;rw[if_neg];have:=h2 0 q (adG _) rfl;omega
 |q::l,i+1,hi,h1,h2=>by
  unfold pos;rw[if_pos (h1 0 q (by omega) rfl),←Hq s l i (by simpa using hi) (fun j p hj hp=>h1 (j+1) p (by omega) (by simpa using hp)) (fun j p hj hp=>h2 (j+1) p (by omega) (by simpa using hp))]
def half{i j:Nat}(h:i+j<4611686018427387904):adx.wrap (shr .u64 (IntKind.u64.wrap (adx.wrap ((i:Int)+j))) 1)=(((i+j)/2:Nat):Int):=by
 have e0:adx.wrap ((i:Int)+j)=((i+j:Nat):Int):=by rw[ah (by omega)];omega
 rw[e0,oJ (by omega)];unfold shr;have e:min (1:Int).toNat IntKind.u64.bits=1:=rfl;rw[e,Int.fdiv_eq_ediv_of_nonneg _ (by decide)];rw[ah (by omega)];omega
def wR(s:Int)(l:List ln)(i:Nat):Bool:=match l[i]? with|some p=>decide (s≤p.1)|none=>true
section
variable {W:World} {L:LH} {K:VK} {X:WK} {r o:Nat} {l:List ln}
def Ol{n:Nat}{v:Value}(P:Nat→Bool)(hn:n<1099511627776)(R9:∀i j,i≤j→P i=true→P j=true)
 (Xv:∀(i:Nat)(K:VK),i<n→T W L (K (.bool (P i)))→T W L (s9 [(N.dy,dy.u)] v [.i (i:Int)] K))
 (h:∀i:Nat,i≤n→(∀j,j<i→P j=false)→(∀j,i≤j→j<n→P j=true)→T W L (K (.i (i:Int)))):T W L (mM (n:Int) v K):=by
 unfold mM;intro w hs;refine⟨fun vs w=>∃i j:Nat,i≤j∧j≤n∧(∀k,k<i→P k=false)∧(∀k,j≤k→k<n→P k=true)∧vs=[.i 0,.i (i:Int),.i (j:Int)]∧St W w L,
  fun vs _=>match vs with|[_,.int _ i,.int _ j]=>j.toNat-i.toNat|_=>0,⟨0,n,adK _,adG _,(fun k hk=>by omega),(fun k h1 h2=>by omega),rfl,hs⟩,?_⟩
 rintro n2 n3 n4 w2 ⟨i,j,GZ,hjn,hi,hj,e,hs⟩;cases e
 refine T.at ?_ hs;rw[half (by omega)];refine az (fun g=>?_) (fun g=>?_)
 ·have a8:i<j:=by have:=of_decide_eq_true g;omega
  refine c9 (by decide) (Xv _ _ (by omega) ?_);refine qC (az (fun g2=>?_) (fun g2=>?_))
  ·have p0:P ((i+j)/2)=false:=by simpa using g2
   have e1:adx.wrap ((((i+j)/2:Nat):Int)+1)=(((i+j)/2+1:Nat):Int):=by rw[ah (by omega)];omega
   rw[e1];refine fun w3 h3=>⟨⟨(i+j)/2+1,j,by omega,hjn,fun k hk=>?_,hj,rfl,h3⟩,by show(j:Int).toNat-(((i+j)/2+1:Nat):Int).toNat<(j:Int).toNat-(i:Int).toNat;omega⟩;cases hp:P k with
   |false=>rfl
   |true=>rw[R9 k ((i+j)/2) (by omega) hp] at p0;cases p0
  ·have p1:P ((i+j)/2)=true:=by simpa using g2
   refine fun w3 h3=>⟨⟨i,(i+j)/2,by omega,by omega,hi,fun k hk _=>R9 _ k hk p1,rfl,h3⟩,by show(((i+j)/2:Nat):Int).toNat-(i:Int).toNat<(j:Int).toNat-(i:Int).toNat;omega⟩
 ·have:i=j:=by have:=of_decide_eq_false g;omega
  subst this;exact h i hjn hi hj
def zo{s:Int}{cs:LV}{b:OA}{c:Nat}{f:LV→LH}{g:HP→LH}(hv:cs[o]?=some (.l b l.length c))(hr:oY l)(hl:l.length<1099511627776)[i:Lc (Sep.pt r) L cs f][j:pa b l.length c L 2 (l.flatMap mh) g](h:T W L (K (.i (pos s l:Int)))):T W L (gA (some ⟨r,o,none⟩) s K):=by
 unfold gA
 repeat' first|apply ww|apply wm;intro _|apply wb|with_reducible refine kB hv ?_|fail
 rename_i r1 r2;refine Ol (wR s l) hl ?_ ?_ ?_
 ·intro i j GZ hi;unfold wR at *;by_cases hj:j<l.length
  ·have qA:i<l.length:=by omega
   rw[adA qA] at hi;rw[adA hj];simp only[decide_eq_true_eq] at *;by_cases e:i=j
   ·subst e;exact hi
   ·have:=aeG.1 hr i j qA hj (by omega);omega
  ·rw[aeB (by omega)]
 ·intro i K hi hK;show T W _ (dy (i:Int) (ad r1 0) (ad r2 0) K);unfold dy
  repeat' first|apply ww|apply wm;intro _|apply wb|with_reducible refine kB hv ?_|fail
  refine bV ⟨by omega,by omega⟩ fun rb hb=>?_;subst hb;rw[adB];refine u4 lA (adA hi) rfl ?_
  repeat' first|apply ww|apply wm;intro _|apply wb
  refine T.fin (T.dp hK) ?_;unfold wR;rw[adA hi]
 ·intro i hi h1 h2
  repeat' first|apply ww|apply wm;intro _|apply wb
  have e:i=pos s l:=Hq s l i hi (fun j p hj hp=>by
   have:=h1 j hj
   unfold wR at this
   rw[hp] at this
   simpa using this) (fun j p hj hp=>by
   have:=h2 j hj (adC.1 hp).1
   unfold wR at this
   rw[hp] at this
   simpa using this)
  subst e;exact T.drop (T.drop h)
def I6{s:Int}:∀{l:List ln},(∀p∈l,p.1<s)→pos s l=l.length
 |[],_=>rfl
 |p::l,h=>by unfold pos;rw[if_pos (h p (by simp)),I6 fun q hq=>h q (by simp[hq])];rfl
def Dq{r o:Nat}{cs:LV}{v:Value}{u:Value}{f:LV→LH}[i:Lc (Sep.pt r) L cs f](hv:cs[o]?=some u)(h1:v.oneCell'=true)(h:T W (f (cs.set o v)) X):T W L (st ⟨r,o,none⟩ v X):=yd (adC.1 hv).1 h1 h
def pz{cs:LV}{o:Nat}{u v:Value}(hv:cs[o]?=some u):(cs.set o v)[o]?=some v:=by rw[ad7,if_pos rfl,if_pos (adC.1 hv).1]
def tu{b:OA}{n c i e:Nat}{K:OA→Nat→Nat→WK}(hi:i≤n)(h:T W L (K (tA b c i e) (n-i) (c-i))):T W L (oC b n c e (some (i:Int)) none K):=by
 unfold oC;refine c9 ⟨by omega,by omega⟩ ?_;rw[adB];exact h
def JQ(w:World)(e:Nat)(b:OA):Src w 0 e b []:=⟨by simp,fun a ha j v hj=>by simp at hj⟩
def V9{e n m:Nat}{b b':OA}{K:Nat→WK}(hm:min m n=0)(h:T W L (K 0)):T W L (NV e b n b' m K):=fun w hs=>by
 unfold NV;rw[hm];exact⟨[],JQ w e b',fun _=>rfl,fun _=>h w hs,fun a _=>⟨⟨by simp,fun j hj=>by simp at hj⟩,h w hs⟩⟩
def Te{b b':OA}{n c e bytes:Nat}{zero:LV}{K:OA→Nat→Nat→WK}{xs:LV}{f:HP→LH}[i:pa b n c L e xs f](h:T W L (K b n c)):T W L (gj e bytes zero b n c b' 0 K):=
 ny (b:=b) fun qM _ w hs=>⟨[],JQ w e b',fun _=>rfl,fun _=>⟨fun a _=>⟨⟨by simp,fun j hj=>by simp at hj⟩,h w hs⟩,fun _=>h w hs⟩,fun a8=>by omega⟩
section
variable {R:LH} {cs:LV} {b:OA} {c:Nat}
def Tw{s a:Int}(hv:cs[o]?=some (.l b l.length c))(hr:oY l)(hl:l.length<1099511627)(hs:∀p∈l,p.1<s)
 (h:∀b' c',T W (Sep.pt r (cs.set o (.l b' (l.length+1) c'))::own b' (l.length+1) c' 2 ((l++[(s,a)]).flatMap mh)::R) (K (.bool true))):
 T W (Sep.pt r cs::own b l.length c 2 (l.flatMap mh)::R) (eO (some ⟨r,o,none⟩) s a K):=by
 unfold eO;refine tz ?_;refine zo hv hr (by omega) ?_;rw[I6 hs]
 repeat' first|apply ww|apply wm;intro _|apply wb|with_reducible refine kB hv ?_|fail
 refine fx (by simp) ?_;unfold eO.j1
 repeat' first|apply ww|apply wm;intro _|apply wb|with_reducible refine kB hv ?_|fail
 refine jm (x:=((0:Int),(0:Int))) rfl rfl rfl (by omega) (by omega) (pW _) fun b' c'=>?_
 repeat' first|apply ww|apply wm;intro _|apply wb|with_reducible first|refine Dq hv rfl ?_|refine kB (pz hv) ?_|fail
 have e1:adx.wrap ((l.length:Int)+1)=((l.length+1:Nat):Int):=by rw[ah (by omega)];omega
 rw[e1];refine tu (adG _) ?_
 repeat' first|apply ww|apply wm;intro _|apply wb|with_reducible refine kB (pz hv) ?_|fail
 refine tu (by omega) ?_;refine V9 (by omega) ?_
 repeat' first|apply ww|apply wm;intro _|apply wb|with_reducible first|refine tv (pz hv) ?_|refine kB (pz hv) ?_|fail
 refine ny (b:=b') fun qM hlen=>?_;refine bV ⟨by omega,by omega⟩ fun rb hb=>?_;subst hb;rw[adB];refine c9 rfl ?_;show T W _ (iN _ (mh (s,a)) _);refine nF lA (by simp) (pW _) ?_;have:=h (some ⟨rb,0,none⟩) c';rw[List.set_append_right _ _ (adG _)];simpa using T.drop this
def P0{s a:Int}{l0:List ln}(hv:cs[o]?=some (.l b l.length c))(hr:oY l)(hl:l.length<1099511627)(hs:l=l0++[(s,a)])
 (h:∀b' c',T W (Sep.pt r (cs.set o (.l b' l0.length c'))::own b' l0.length c' 2 (l0.flatMap mh)::R) (K (.bool true))):
 T W (Sep.pt r cs::own b l.length c 2 (l.flatMap mh)::R) (eJ (some ⟨r,o,none⟩) s K):=by
 have hlen:l.length=l0.length+1:=by rw[hs];simp
 have hp:pos s l=l0.length:=by
  refine(Hq s l l0.length (by omega) (fun j p hj R8=>?_) (fun j p hj R8=>?_)).symm
  ·have a8:=(adC.1 R8).1;have:=aeG.1 hr j l0.length a8 (by omega) hj;rw[adA a8] at R8;rw[adU.inj R8] at this;have e:l[l0.length]=(s,a):=by simp[hs]
   rw[e] at this;exact this
  ·have a8:=(adC.1 R8).1;have:j=l0.length:=by omega
   subst this;rw[hs] at R8;simp at R8;rw[←R8];exact ae5 _
 have hg:l[l0.length]?=some (s,a):=by rw[hs];simp
 unfold eJ;refine tz ?_;refine zo hv hr (by omega) ?_;rw[hp]
 repeat' first|apply ww|apply wm;intro _|apply wb|with_reducible refine kB hv ?_|fail
 refine fx (by simp;omega) ?_
 repeat' first|apply ww|apply wm;intro _|apply wb|with_reducible refine kB hv ?_|fail
 refine bV ⟨by omega,by omega⟩ fun rb hb=>?_;subst hb;rw[adB];refine u4 lA hg rfl ?_
 repeat' first|apply ww|apply wm;intro _|apply wb
 unfold eJ.j1;refine fx (by simp) ?_
 repeat' first|apply ww|apply wm;intro _|apply wb|with_reducible refine kB hv ?_|fail
 refine ny (b:=some ⟨rb,0,none⟩) fun qM tO=>?_;refine u3 (by omega) ?_
 repeat' first|apply ww|apply wm;intro _|apply wb|with_reducible refine kB hv ?_|fail
 have e1:adx.wrap ((l0.length:Int)+1)=((l0.length+1:Nat):Int):=by rw[ah (by omega)];omega
 rw[e1];refine tu (by omega) ?_;rw[hlen] at hv;rw[hlen,aeY];have et:l.take l0.length=l0:=by rw[hs];simp
 refine vN (b:=some ⟨rb,0,none⟩) (i:=l0.length) lA (by omega) ?_;rw[et];refine Te (b:=some ⟨rb,0,none⟩) ?_
 repeat' first|apply ww|apply wm;intro _|apply wb|with_reducible first|refine tv hv ?_|refine Dq hv rfl ?_|fail
 exact h _ _
def qB(to:Int)(l:List ln):Nat:=if to=0 then l.length else match l[pos to l]? with|some p=>if p.1=to then pos to l+1 else pos to l|none=>pos to l
def Pn(to:Int)(l:List ln):qB to l≤l.length:=by
 unfold qB;have:=DH to l;split
 ·exact adG _
 ·split
  ·rename_i p hp;have:=(adC.1 hp).1;split<;>omega
  ·omega
def nh(from_ to:Int)(l:List ln):List ln:=(l.drop (pos from_ l)).take (qB to l-pos from_ l)
def PH{m out:List ln}{i:Nat}(hl:m.length=out.length)(hm:∀j,j<out.length→m[j]?=if j<i∨out.length-1-j<i then out[out.length-1-j]? else out[j]?)(hi:out.length≤2* i+1):m=out.reverse:=by
 apply aeV;intro j;by_cases hj:j<out.length
 ·rw[hm j hj,List.getElem?_reverse hj];by_cases h:j<i∨out.length-1-j<i
  ·rw[if_pos h]
  ·rw[if_neg h];congr 1;omega
 ·rw[aeB (by omega),aeB (by simpa using hj)]
def MX{from_ to:Int}{uu:Bool}{f:LV→LH}{g:HP→LH}(hv:cs[o]?=some (.l b l.length c))(hr:oY l)(hl:l.length<100000)[i:Lc (Sep.pt r) L cs f][j:pa b l.length c L 2 (l.flatMap mh) g]
 (h:∀b' c' out,out=(if uu then(nh from_ to l).reverse else nh from_ to l)→T W (own b' out.length c' 2 (out.flatMap mh)::L) (K (.l b' out.length c'))):T W L (cD (some ⟨r,o,none⟩) from_ to uu K):=by
 unfold cD;refine tz ?_
 repeat' first|apply ww|apply wm;intro _|apply wb|with_reducible refine kB hv ?_|fail
 refine zo hv hr (by omega) ?_
 repeat' first|apply ww|apply wm;intro _|apply wb|with_reducible refine tv hv ?_|fail
 have j1:T W L (cD.j1 K (pos from_ l:Int) (some ⟨r,o,none⟩) uu (qB to l:Int)):=by
  have hul:=Pn to l;unfold cD.j1;refine gB (e:=2) ?_;intro w hs;refine⟨fun vs w=>∃(k:Nat)(out:List ln)(b':OA)(c':Nat),pos from_ l≤k∧(k≤qB to l∨k=pos from_ l)∧out=(l.drop (pos from_ l)).take (k-pos from_ l)∧out.length=k-pos from_ l∧
   vs=[.l none 0 0,.i (k:Int),.i (qB to l:Int),.l b' out.length c']∧St W w (own b' out.length c' 2 (out.flatMap mh)::L),
   fun vs _=>match vs with|[_,.int _ k,.int _ n,_]=>n.toNat-k.toNat|_=>0,⟨pos from_ l,[],none,0,adG _,.inr rfl,by simp,by simp,rfl,hs⟩,?_⟩
  rintro uF qg uE n5 n6 b' pL c' w2 ⟨k,out,b0,c0,O0,rj,tg,hol,e,hs⟩;cases e
  refine T.at ?_ hs;have LF:=DH from_ l;refine az (fun g1=>?_) (fun g1=>?_)
  ·have a8:k<qB to l:=by have:=of_decide_eq_true g1;omega
   have e5:adx.wrap ((k:Int)+1)=((k+1:Nat):Int):=by rw[ah (by omega)];omega
   have hg:=adA (show k<l.length by omega);generalize l[k]=p at hg
   repeat' first|apply ww|apply wm;intro _|apply wb|with_reducible refine kB hv ?_|fail
   refine bV ⟨by omega,by omega⟩ fun rb hb=>?_;subst hb;rw[adB,e5];refine dV lA hg ?_
   repeat' first|apply ww|apply wm;intro _|apply wb
   refine jm (x:=p) rfl rfl rfl (by omega) (by omega) (pW _) fun b2 c2=>?_;refine T.drop fun w3 h3=>⟨⟨k+1,out++[p],b2,c2,by omega,.inl a8,?_,by simp;omega,by simp,by simpa using h3⟩,by show(qB to l:Int).toNat-((k+1:Nat):Int).toNat<(qB to l:Int).toNat-(k:Int).toNat;omega⟩;rw[show k+1-pos from_ l=(k-pos from_ l)+1 by omega,adT,←tg,aeQ,show pos from_ l+(k-pos from_ l)=k by omega,hg]
   rfl
  ·have iM:qB to l≤k:=by have:=of_decide_eq_false g1;omega
   have WU:out=nh from_ to l:=by
    rw[tg];unfold nh;rcases rj with h2|h2
    ·rw[show k=qB to l by omega]
    ·rw[h2,aeY,show qB to l-pos from_ l=0 by omega]
   refine az (fun g2=>?_) (fun g2=>?_)
   ·subst g2;intro w2 hs;refine⟨fun vs w=>∃(i:Nat)(m:List ln),i≤out.length∧m.length=out.length∧(∀j,j<out.length→m[j]?=if j<i∨out.length-1-j<i then out[out.length-1-j]? else out[j]?)∧
     vs=[.l none 0 0,.l b' out.length c',.i (i:Int),.i ((out.length:Int) -1-i)]∧St W w (own b' out.length c' 2 (m.flatMap mh)::L),
     fun vs _=>match vs with|[_,_,.int _ k,_]=>out.length-k.toNat|_=>0,⟨0,out,adK _,rfl,fun j hj=>by simp,by rw[ah (by omega)];simp,hs⟩,?_⟩
    rintro ZF Zy Wg sb7 sn7 sc7 n7 n8 w5 ⟨i,m,hi,FT,hm,e,hs⟩;cases e
    refine T.at ?_ hs;refine az (fun g3=>?_) (fun g3=>?_)
    ·have a8:(i:Int)<(out.length:Int) -1-i:=of_decide_eq_true g3;obtain⟨k2,aaq⟩:∃k2:Nat,k2=out.length-1-i:=⟨_,rfl⟩;have ek:(out.length:Int) -1-i=(k2:Int):=by omega
     have e5:adx.wrap ((i:Int)+1)=((i+1:Nat):Int):=by rw[ah (by omega)];omega
     have e6:adx.wrap ((k2:Int) -1)=(out.length:Int) -1-((i+1:Nat):Int):=by rw[ah (by omega)];omega
     have g4:=adA (show i<m.length by omega);have g5:=adA (show k2<m.length by omega);have g6:=hm i (by omega);have g7:=hm k2 (by omega);rw[if_neg (by omega)] at g6;rw[if_neg (by omega)] at g7;generalize m[i]=x at g4;generalize m[k2]=y at g5;rw[ek,e5,e6]
     repeat' first|apply ww|apply wm;intro _|apply wb
     refine bV ⟨by omega,by omega⟩ fun rb hb=>?_;subst hb;rw[adB];refine dV lA g5 ?_;refine pn ⟨by omega,by omega⟩ ?_;rw[adB];refine dV lA g4 ?_;refine pn ⟨by omega,by omega⟩ ?_;rw[adB];refine c9 rfl (nF lA (by omega) (pW _) ?_);refine pn ⟨by omega,by omega⟩ ?_;rw[adB];refine c9 rfl (nF lA (by simp;omega) (pW _) ?_);refine fun w3 h3=>⟨⟨i+1,(m.set i y).set k2 x,by omega,by simp[FT],fun j hj=>?_,rfl,h3⟩,by show out.length-((i+1:Nat):Int).toNat<out.length-(i:Int).toNat;omega⟩;rw[ad7,ad7];by_cases q1:k2=j
     ·subst q1;rw[if_pos rfl,if_pos (by simp;omega),if_pos (by omega),show out.length-1-k2=i by omega,←g6,g4]
     ·rw[if_neg q1];by_cases q2:i=j
      ·subst q2;rw[if_pos rfl,if_pos (by omega),if_pos (by omega),←aaq,←g7,g5]
      ·rw[if_neg q2,hm j hj];by_cases q3:j<i∨out.length-1-j<i
       ·rw[if_pos q3,if_pos (by omega)]
       ·rw[if_neg q3,if_neg (by omega)]
    ·have adn: ¬(i:Int)<(out.length:Int) -1-i:=of_decide_eq_false g3;have:=PH FT hm (by omega);subst this;have:=h b' c' out.reverse (by rw[if_pos rfl,WU]);rw[aew] at this;exact this
   ·subst g2;exact h b' c' out (by rw[if_neg (by decide),WU])
 refine az (fun g1=>?_) (fun g1=>?_)
 ·have OQ:to≠0:=by simpa using g1
  refine zo hv hr (by omega) ?_;have hpt:=DH to l
  repeat' first|apply ww|apply wm;intro _|apply wb|with_reducible refine kB hv ?_|fail
  unfold qB at j1;rw[if_neg OQ] at j1;refine az (fun g2=>?_) (fun g2=>?_)
  ·have a8:pos to l<l.length:=by have:=of_decide_eq_true g2;omega
   have hg:=adA a8;generalize l[pos to l]=p at hg;have e5:adx.wrap ((pos to l:Int)+1)=((pos to l+1:Nat):Int):=by rw[ah (by omega)];omega
   rw[hg] at j1;dsimp only at j1
   repeat' first|apply ww|apply wm;intro _|apply wb|with_reducible refine kB hv ?_|fail
   rw[e5];refine bV ⟨by omega,by omega⟩ fun rb hb=>?_;subst hb;rw[adB];refine u4 lA hg rfl ?_
   repeat' first|apply ww|apply wm;intro _|apply wb
   refine az (fun g3=>?_) (fun g3=>?_)
   ·rw[if_pos (by simpa using g3)] at j1;exact j1
   ·rw[if_neg (by simpa using g3)] at j1;exact j1
  ·have iM:l.length≤pos to l:=by have:=of_decide_eq_false g2;omega
   rw[aeB iM] at j1;exact j1
 ·have OQ:to=0:=by simpa using g1
  unfold qB at j1;rw[if_pos OQ] at j1;exact j1
end
end
structure Item where
 due:Int
 af:Int
 id:Nat
def eB(x:Item):LV:=[.i x.due,.i x.af]++nm x.id
def gI(x:Item):(eB x).length=4:=rfl
instance{x:Item}:Ln (eB x) 4:=⟨rfl⟩
instance{x:Item}:Gt (eB x) 0 (.i x.due):=⟨rfl⟩
instance{x:Item}:Gt (eB x) 1 (.i x.af):=⟨rfl⟩
def mV(x:Item):∀v∈eB x,v.oneCell'=true:=l6 (fun v h=>by simp at h;rcases h with rfl|rfl<;>rfl) (lC _)
instance{x1 x2 x3 x4:Value}{p:Item}:Wr [x1,x2,x3,x4] 0 (eB p) (eB p):=⟨rfl,adG _,mV p⟩
instance{p:Item}:Sub (eB p) 0 4 (eB p):=⟨rfl,fun j v h=>by rw[adE];exact h⟩
def bf(a b:Item):Prop:=a.due<b.due∨a.due=b.due∧a.af<b.af
instance(a b:Item):Decidable (bf a b):=by unfold bf;infer_instance
def JH{a b:Item}(h:bf a b): ¬bf b a:=by unfold bf at *;omega
def Gu{a b c:Item}(h:bf a b)(g:bf b c):bf a c:=by unfold bf at *;omega
def AM{a b c:Item}(h: ¬bf a b)(g: ¬bf b c): ¬bf a c:=by unfold bf at *;omega
def M0{a b c:Item}(h: ¬bf a c)(g:bf b c): ¬bf a b:=fun hh=>h (Gu hh g)
def Ih(a:Item): ¬bf a a:=by unfold bf;omega
def par(j:Nat):Nat:=(j-1)/2
def NB(h:List Item)(i j:Nat):Prop:=∀x y,h[i]?=some x→h[j]?=some y→¬bf x y
def qF(h:List Item):Prop:=∀j,0<j→NB h j (par j)
def HU(h:List Item)(i:Nat):Prop:=(∀j,0<j→j≠i→NB h j (par j))∧(∀j,0<j→par j=i→0<i→NB h j (par i))
def HD(h:List Item)(i:Nat):Prop:=(∀j,0<j→par j≠i→NB h j (par j))∧(∀j,0<j→par j=i→0<i→NB h j (par i))
def Kids(h:List Item)(i:Nat):Prop:=∀j,0<j→par j=i→NB h j i
def qF.hu{h:List Item}(hh:qF h)(i:Nat):HU h i:=by
 refine⟨fun j h0 _=>hh j h0,fun j h0 hp hi x y hx hy=>?_⟩;have a8:j<h.length:=(adC.1 hx).1;have HH:i<h.length:=by unfold par at hp;omega
 have a1:=hh j h0 x _ hx (by rw[hp];exact adA HH);exact AM a1 (hh i hi _ y (adA HH) hy)
def HU.heap{h:List Item}{i:Nat}(hu:HU h i)(hx:i=0∨NB h i (par i)):qF h:=fun j h0=>by
 by_cases e:j=i
 ·subst e;rcases hx with hx|hx
  ·omega
  ·exact hx
 ·exact hu.1 j h0 e
def HD.heap{h:List Item}{i:Nat}(hd:HD h i)(hk:Kids h i):qF h:=fun j h0=>by
 by_cases e:par j=i
 ·rw[e];exact hk j h0 e
 ·exact hd.1 j h0 e
def Pw(h:List Item)(i k:Nat)(x y:Item):List Item:=(h.set i y).set k x
def IJ(h:List Item)(i k:Nat)(x y:Item):(Pw h i k x y).length=h.length:=by simp[Pw]
section
variable {h:List Item} {i k:Nat} {x y:Item}
def IK(hx:h[i]?=some x)(hy:h[k]?=some y)(Nn:i≠k)(j:Nat):(Pw h i k x y)[j]?=if j=i then some y else if j=k then some x else h[j]?:=by
 have l1:=(adC.1 hx).1;have l2:=(adC.1 hy).1;unfold Pw;rw[ad7,ad7];by_cases e1:k=j
 ·subst e1;rw[if_pos rfl,if_pos (by simpa using l2),if_neg (by omega),if_pos rfl]
 ·rw[if_neg e1];by_cases e2:i=j
  ·subst e2;rw[if_pos rfl,if_pos l1,if_pos rfl]
  ·rw[if_neg e2,if_neg (by omega),if_neg (by omega)]
def uf:∀{h:List Item} {i:Nat} {x y:Item},h[i]?=some x→(x::h.set i y).Perm (y::h)
 |[],i,x,y,hx=>by simp at hx
 |a::h,0,x,y,hx=>by simp at hx;subst hx;exact ad2.swap _ _ _
 |a::h,i+1,x,y,hx=>by
  have ih:=uf (y:=y) (show h[i]?=some x by simpa using hx);rw[aeP];exact(ad2.swap _ _ _).trans ((ih.cons a).trans (ad2.swap _ _ _))
def EZ(hx:h[i]?=some x)(hy:h[k]?=some y)(Nn:i≠k):(Pw h i k x y).Perm h:=by
 have h1:=uf (y:=y) hx;have hy2:(h.set i y)[k]?=some y:=by rw[ad7,if_neg Nn];exact hy
 have h2:=uf (y:=x) hy2;exact(List.perm_cons y).1 (h2.trans h1)
def HU.step(hu:HU h i)(hi:0<i)(hx:h[i]?=some x)(hy:h[par i]?=some y)(hb:bf x y):HU (Pw h i (par i) x y) (par i):=by
 have Nn:i≠par i:=by unfold par;omega
 have g:=IK hx hy Nn
 constructor
 ·intro j h0 hj a b ha nW;rw[g] at ha nW;by_cases e1:j=i
  ·subst e1;rw[if_pos rfl] at ha;cases ha
   rw[if_neg (fun h=>Nn h.symm),if_pos rfl] at nW;cases nW
   exact JH hb
  ·rw[if_neg e1,if_neg hj] at ha;by_cases e2:par j=i
   ·rw[if_pos e2] at nW;cases nW
    exact hu.2 j h0 e2 hi a y ha hy
   ·rw[if_neg e2] at nW;by_cases e3:par j=par i
    ·rw[if_pos e3] at nW;cases nW
     exact M0 (hu.1 j h0 e1 a y ha (by rw[e3];exact hy)) hb
    ·rw[if_neg e3] at nW;exact hu.1 j h0 e1 a b ha nW
 ·intro j h0 hp GU a b ha nW;have n1:par (par i)≠i:=by unfold par;omega
  have n2:par (par i)≠par i:=by unfold par at *;omega
  rw[g] at ha nW;rw[if_neg n1,if_neg n2] at nW;have top:=hu.1 (par i) GU (fun h=>Nn h.symm) y b hy nW;by_cases e1:j=i
  ·subst e1;rw[if_pos rfl] at ha;cases ha
   exact top
  ·have n3:j≠par i:=by intro h;rw[h] at hp;exact n2 hp
   rw[if_neg e1,if_neg n3] at ha;exact AM (hu.1 j h0 e1 a y ha (by rw[hp];exact hy)) top
def HD.step(hd:HD h i)(hk:par k=i)(h0k:0<k)(hx:h[i]?=some x)(hy:h[k]?=some y)(hb:bf y x)(uJ:∀j,0<j→par j=i→NB h j k):HD (Pw h i k x y) k:=by
 have Nn:i≠k:=by intro h;unfold par at hk;omega
 have g:=IK hx hy Nn
 constructor
 ·intro j h0 hj a b ha nW;rw[g] at ha nW;by_cases e1:j=i
  ·subst e1;rw[if_pos rfl] at ha;cases ha
   have n1:par j≠j:=by unfold par;omega
   rw[if_neg n1,if_neg hj] at nW;exact hd.2 k h0k hk h0 y b hy nW
  ·rw[if_neg e1] at ha;by_cases e2:j=k
   ·subst e2;rw[if_pos rfl] at ha;cases ha
    rw[if_pos hk] at nW;cases nW
    exact JH hb
   ·rw[if_neg e2] at ha;by_cases e3:par j=i
    ·rw[if_pos e3] at nW;cases nW
     exact uJ j h0 e3 a y ha hy
    ·rw[if_neg e3,if_neg hj] at nW;exact hd.1 j h0 e3 a b ha nW
 ·intro j h0 hp hk0 a b ha nW;rw[g] at ha nW;rw[if_pos hk] at nW;cases nW
  have n1:j≠i:=by intro h;unfold par at hp hk;omega
  have n2:j≠k:=by intro h;unfold par at hp;omega
  rw[if_neg n1,if_neg n2] at ha;exact hd.1 j h0 (by rw[hp];exact fun h=>Nn h.symm) a y ha (by rw[hp];exact hy)
def qF.first(hh:qF h)(hx:h[0]?=some x):∀y∈h,¬bf y x:=by
 have key:∀(n j:Nat),j≤n→∀y:Item,h[j]?=some y→¬bf y x:=by
  intro n
  induction n with
  |zero=>intro j hj y hy;have:j=0:=by omega
         subst this;rw[hx] at hy;cases hy;exact Ih x
  |succ n ih=>
   intro j hj y hy;by_cases h0:j=0
   ·subst h0;rw[hx] at hy;cases hy;exact Ih x
   ·have a8:=(adC.1 hy).1;have hp:par j<h.length:=by unfold par;omega
    exact AM (hh j (by omega) y _ hy (adA hp)) (ih (par j) (by unfold par;omega) _ (adA hp))
 intro y hy;obtain⟨j,hj⟩:=aeT hy;exact key j j (adG _) y hj
def IB{z:Item}{n:Nat}(hh:qF h)(hl:h.length=n+1)(hi:i<n)(hz:h[n]?=some z):
 (i=0∨NB ((h.set i z).take n) i (par i))→HD ((h.set i z).take n) i:=by
 have g:∀j,((h.set i z).take n)[j]?=if j<n then(if j=i then some z else h[j]?) else none:=by
  intro j;rw[ae1];by_cases h1:j<n
  ·rw[if_pos h1,if_pos h1,ad7];by_cases h2:i=j
   ·subst h2;rw[if_pos rfl,if_pos (by omega),if_pos rfl]
   ·rw[if_neg h2,if_neg (by omega)]
  ·rw[if_neg h1,if_neg h1]
 have old:∀j a,j≠i→((h.set i z).take n)[j]?=some a→h[j]?=some a:=by
  intro j a hj ha;rw[g] at ha;rw[if_neg hj] at ha;split at ha
  ·exact ha
  ·cases ha
 intro ht;refine⟨fun j h0 hp a b ha hb=>?_,fun j h0 hp Sg a b ha hb=>?_⟩
 ·by_cases e:j=i
  ·subst e;rcases ht with ht|ht
   ·omega
   ·exact ht a b ha hb
  ·exact hh j h0 a b (old j a e ha) (old _ b hp hb)
 ·have n1:j≠i:=by intro h;unfold par at hp;omega
  have n2:par i≠i:=by unfold par;omega
  exact(hh.hu i).2 j h0 hp Sg a b (old j a n1 ha) (old _ b n2 hb)
def Pp{z:Item}{n:Nat}(hh:qF h)(hl:h.length=n+1)(hi:i<n)(hz:h[n]?=some z)(h0i:0<i){y:Item}(hy:h[par i]?=some y)(hb:bf z y):
 HU ((h.set i z).take n) i∧Kids ((h.set i z).take n) i:=by
 have g:∀j,((h.set i z).take n)[j]?=if j<n then(if j=i then some z else h[j]?) else none:=by
  intro j;rw[ae1];by_cases h1:j<n
  ·rw[if_pos h1,if_pos h1,ad7];by_cases h2:i=j
   ·subst h2;rw[if_pos rfl,if_pos (by omega),if_pos rfl]
   ·rw[if_neg h2,if_neg (by omega)]
  ·rw[if_neg h1,if_neg h1]
 have old:∀j a,j≠i→((h.set i z).take n)[j]?=some a→h[j]?=some a:=by
  intro j a hj ha;rw[g] at ha;rw[if_neg hj] at ha;split at ha
  ·exact ha
  ·cases ha
 have top:=(hh.hu i).2;have kids:Kids ((h.set i z).take n) i:=fun j h0 hp a b ha nW=>by
  have n1:j≠i:=by intro h;unfold par at hp;omega
  rw[g,if_pos hi,if_pos rfl] at nW;cases nW
  exact M0 (top j h0 hp h0i a y (old j a n1 ha) hy) hb
 refine⟨⟨fun j h0 hj a b ha nW=>?_,fun j h0 hp Sg a b ha nW=>?_⟩,kids⟩
 ·by_cases e:par j=i
  ·rw[e] at nW;exact kids j h0 e a b ha nW
  ·exact hh j h0 a b (old j a hj ha) (old _ b e nW)
 ·have n1:j≠i:=by intro h;unfold par at hp;omega
  have n2:par i≠i:=by unfold par;omega
  exact top j h0 hp Sg a b (old j a n1 ha) (old _ b n2 nW)
end
section
variable {W:World} {R:LH} {L:LH} {K:VK} {X:WK} {r o:Nat} {cs:LV} {b:OA} {c:Nat} {h:List Item}
def Gv{x y:Item}(hk:T W L (K (.bool (decide (bf x y))))):T W L (kF (eB x) (eB y) K):=by
 unfold kF
 repeat' first|apply ww|apply wm;intro _|apply wb|with_reducible refine az (fun h1=>?_) (fun h1=>?_)|fail
 all_goals refine T.fin (T.dp hk) ?_
 ·have:=of_decide_eq_true h1;rw[decide_eq_true (show bf x y from .inl this)]
 ·rename_i h2;have h2:=of_decide_eq_false h2;have h3:x.due=y.due:=by simpa using h1
  congr 1
  rw[decide_eq_decide];unfold bf;omega
 ·rename_i h2;have h2:=of_decide_eq_false h2;have h3: ¬x.due=y.due:=by simpa using h1
  rw[decide_eq_false (show ¬bf x y by unfold bf;omega)]
def F2{i:Nat}(h0:0<i)(h:i<1099511627776):adx.wrap ((adx.wrap ((i:Int) -1)).tdiv (2:Int))=((par i:Nat):Int):=by
 have e0:adx.wrap ((i:Int) -1)=((i-1:Nat):Int):=by rw[ah (by omega)];omega
 rw[e0];unfold par;have e1:((i-1:Nat):Int).tdiv 2=(((i-1)/2:Nat):Int):=by rw[Int.tdiv_eq_ediv_of_nonneg (by omega)];omega
 rw[e1,ah (by omega)]
def V0{i:Nat}(hv:cs[o]?=some (.l b h.length c))(hl:h.length<100000)(hi:i<h.length)(hu:HU h i)
 (hk:∀h',qF h'→h'.Perm h→T W (Sep.pt r cs::own b h.length c 4 (h'.flatMap eB)::R) (K (.tuple ⟨[]⟩))):
 T W (Sep.pt r cs::own b h.length c 4 (h.flatMap eB)::R) (eL (some ⟨r,o,none⟩) (i:Int) K):=by
 unfold eL;intro w hs;refine⟨fun vs w=>∃(j:Nat)(m:List Item),j<h.length∧m.length=h.length∧m.Perm h∧HU m j∧vs=[.i (j:Int)]∧St W w (Sep.pt r cs::own b h.length c 4 (m.flatMap eB)::R),
  fun vs _=>match vs with|[.int _ j]=>j.toNat|_=>0,⟨i,h,hi,rfl,ad2.refl _,hu,rfl,hs⟩,?_⟩
 rintro n2 w2 ⟨j,m,hj,FT,hp,Z9,e,hs⟩;cases e
 refine T.at ?_ hs
 repeat' first|apply ww|apply wm;intro _|apply wb
 refine az (fun g1=>?_) (fun g1=>?_)
 ·have h0:0<j:=by have:=of_decide_eq_true g1;omega
  have LF:par j<m.length:=by unfold par;omega
  have gx:=adA (show j<m.length by omega);have gy:=adA LF;generalize m[j]=x at gx;generalize m[par j]=y at gy;have ji:j≠par j:=by unfold par;omega
  simp only[F2 h0 (by omega:j<1099511627776)]
  repeat' first|apply ww|apply wm;intro _|apply wb|with_reducible refine kB hv ?_|fail
  refine bV ⟨by omega,by omega⟩ fun rb hb=>?_;subst hb;rw[adB];refine dV gI gx ?_
  repeat' first|apply ww|apply wm;intro _|apply wb|with_reducible first|refine kB hv ?_|refine c9 (by decide) ?_|fail
  refine pn ⟨by omega,by omega⟩ ?_;rw[adB];refine dV gI gy ?_
  repeat' first|apply ww|apply wm;intro _|apply wb|with_reducible first|refine Gv ?_|refine tv hv ?_|fail
  unfold eL.j1;simp only[F2 h0 (by omega:j<1099511627776)];refine az (fun g2=>?_) (fun g2=>?_)
  ·have hb:=of_decide_eq_true g2
   repeat' first|apply ww|apply wm;intro _|apply wb|with_reducible first|refine kB hv ?_|refine c9 (by decide) ?_|fail
   refine pn ⟨by omega,by omega⟩ ?_;rw[adB];refine dV gI gy ?_
   repeat' first|apply ww|apply wm;intro _|apply wb|with_reducible first|refine kB hv ?_|refine c9 (by decide) ?_|fail
   refine pn ⟨by omega,by omega⟩ ?_;rw[adB];refine dV gI gx ?_;refine pn ⟨by omega,by omega⟩ ?_;rw[adB];refine c9 rfl (nF gI (by omega) (mV _) ?_);refine pn ⟨by omega,by omega⟩ ?_;rw[adB];refine c9 rfl (nF gI (by simp;omega) (mV _) ?_);refine c9 (by decide) fun w3 h3=>⟨⟨par j,Pw m j (par j) x y,by omega,by rw[IJ];exact FT,(EZ gx gy ji).trans hp,Z9.step h0 gx gy hb,rfl,h3⟩,by show(par j:Int).toNat<(j:Int).toNat;unfold par;omega⟩
  ·refine hk m (Z9.heap (.inr ?_)) hp;intro a b ha nW;rw[gx] at ha;rw[gy] at nW;cases ha;cases nW
   exact of_decide_eq_false g2
 ·have h0:j=0:=by have:=of_decide_eq_false g1;omega
  unfold eL.j1;refine q8 ?_;exact hk m (Z9.heap (.inl h0)) hp
def UO{i:Nat}(hv:cs[o]?=some (.l b h.length c))(hl:h.length<100000)(hi:i<h.length)(hd:HD h i∨Kids h i)
 (hk:∀h',(qF h'∨h'=h∧Kids h i)→h'.Perm h→T W (Sep.pt r cs::own b h.length c 4 (h'.flatMap eB)::R) (K (.tuple ⟨[]⟩))):
 T W (Sep.pt r cs::own b h.length c 4 (h.flatMap eB)::R) (cn (some ⟨r,o,none⟩) (i:Int) K):=by
 unfold cn;intro w hs;refine⟨fun vs w=>∃(j:Nat)(m:List Item),j<h.length∧m.length=h.length∧m.Perm h∧(HD m j∨m=h∧j=i∧Kids h i)∧vs=[.i (j:Int)]∧St W w (Sep.pt r cs::own b h.length c 4 (m.flatMap eB)::R),
  fun vs _=>match vs with|[.int _ j]=>h.length-j.toNat|_=>0,⟨i,h,hi,rfl,ad2.refl _,hd.imp id fun hh=>⟨rfl,rfl,hh⟩,rfl,hs⟩,?_⟩
 rintro n2 w2 ⟨j,m,hj,FT,hp,DW,e,hs⟩;cases e
 have e1:adx.wrap (adx.wrap (2* (j:Int))+1)=((2* j+1:Nat):Int):=by
  have:adx.wrap (2* (j:Int))=2* j:=ah (by omega);rw[this,ah (by omega)];omega
 have e2:adx.wrap (adx.wrap (2* (j:Int))+2)=((2* j+2:Nat):Int):=by
  have:adx.wrap (2* (j:Int))=2* j:=ah (by omega);rw[this,ah (by omega)];omega
 rw[e1];refine⟨fun vs w=>∃(k d:Nat),2* j+1≤d∧d≤2* j+3∧(k=j∨0<k∧par k=j∧∃x y,m[k]?=some x∧m[j]?=some y∧bf x y)∧(∀q,0<q→par q=j→q<d→NB m q k)∧k<h.length∧
    vs=[.i (j:Int),.i (k:Int),.i (d:Int)]∧St W w (Sep.pt r cs::own b h.length c 4 (m.flatMap eB)::R),
  fun vs _=>match vs with|[_,_,.int _ d]=>2* j+3-d.toNat|_=>0,⟨j,2* j+1,adG _,by omega,.inl rfl,(fun q h0 hq a8=>by unfold par at hq;omega),hj,rfl,hs⟩,?_⟩
 rintro n5 n6 n7 w5 ⟨k,d,hd1,O5,Xd,uJ,T',e,hs⟩;cases e
 refine T.at ?_ hs;rw[e2];have out:(∀q,0<q→par q=j→NB m q k)→T W (Sep.pt r cs::own b h.length c 4 (m.flatMap eB)::R) (cn.j1 K (some ⟨r,o,none⟩) (fun vs w=>∃(j:Nat)(m:List Item),j<h.length∧m.length=h.length∧m.Perm h∧(HD m j∨m=h∧j=i∧Kids h i)∧vs=[.i (j:Int)]∧St W w (Sep.pt r cs::own b h.length c 4 (m.flatMap eB)::R))
                      (fun vs _=>match vs with|[.int _ j]=>h.length-j.toNat|_=>0) (j:Int) w2 (j:Int) (k:Int)):=by
  intro hU;unfold cn.j1;refine az (fun g1=>?_) (fun g1=>?_)
  ·have:k=j:=by have:(k:Int)=j:=by simpa using g1
                omega
   subst this;refine hk m ?_ hp;rcases DW with DW|⟨hm,FW,Ua⟩
   ·exact .inl (DW.heap hU)
   ·exact .inr ⟨hm,Ua⟩
  ·have ji:k≠j:=by
    intro hh;subst hh;simp at g1
   obtain⟨h0,Qs,x,y,gx,gy,hb⟩:=Xd.resolve_left ji;have aaz:HD m j:=by
    rcases DW with DW|⟨hm,FW,Ua⟩
    ·exact DW
    ·subst hm;subst FW;exact absurd hb (Ua k h0 Qs x y gx gy)
   repeat' first|apply ww|apply wm;intro _|apply wb|with_reducible refine kB hv ?_|fail
   refine bV ⟨by omega,by omega⟩ fun rb nW=>?_;subst nW;rw[adB];refine dV gI gx ?_
   repeat' first|apply ww|apply wm;intro _|apply wb|with_reducible refine kB hv ?_|fail
   refine pn ⟨by omega,by omega⟩ ?_;rw[adB];refine dV gI gy ?_;refine pn ⟨by omega,by omega⟩ ?_;rw[adB];refine c9 rfl (nF gI (by omega) (mV _) ?_);refine pn ⟨by omega,by omega⟩ ?_;rw[adB];refine c9 rfl (nF gI (by simp;omega) (mV _) ?_);refine fun w3 h3=>⟨⟨k,Pw m j k y x,T',by rw[IJ];exact FT,(EZ gy gx (fun hh=>ji hh.symm)).trans hp,.inl (aaz.step Qs h0 gy gx hb hU),rfl,h3⟩,by show h.length-(k:Int).toNat<h.length-(j:Int).toNat;unfold par at Qs;omega⟩
 refine az (fun g1=>?_) (fun g1=>?_)
 ·have hle:d≤2* j+2:=by have:=of_decide_eq_true g1;omega
  repeat' first|apply ww|apply wm;intro _|apply wb|with_reducible refine kB hv ?_|fail
  unfold cn.j2;refine az (fun g2=>?_) (fun g2=>?_)
  ·have a8:d<h.length:=by have:=of_decide_eq_true g2;omega
   have gx:=adA (show d<m.length by omega);have gy:=adA (show k<m.length by omega);generalize m[d]=x at gx;generalize hmk:m[k]'(by omega)=y at gy;have hpd:par d=j:=by unfold par;omega
   have e5:adx.wrap ((d:Int)+1)=((d+1:Nat):Int):=by rw[ah (by omega)];omega
   repeat' first|apply ww|apply wm;intro _|apply wb|with_reducible refine kB hv ?_|fail
   refine bV ⟨by omega,by omega⟩ fun rb hb=>?_;subst hb;rw[adB];refine dV gI gx ?_
   repeat' first|apply ww|apply wm;intro _|apply wb|with_reducible refine kB hv ?_|fail
   refine pn ⟨by omega,by omega⟩ ?_;rw[adB];refine dV gI gy ?_
   repeat' first|apply ww|apply wm;intro _|apply wb|with_reducible first|refine Gv ?_|refine tv hv ?_|fail
   rw[e5];refine az (fun g3=>?_) (fun g3=>?_)
   ·have hb:=of_decide_eq_true g3;refine fun w3 h3=>⟨⟨d,d+1,by omega,by omega,.inr ⟨by omega,hpd,x,?_⟩,fun q h0 hq rM a b' ha tQ=>?_,a8,rfl,h3⟩,by show 2* j+3-((d+1:Nat):Int).toNat<2* j+3-(d:Int).toNat;omega⟩
    ·rcases Xd with rfl|⟨h0,Qs,x1,y1,q1,q2,q3⟩
     ·exact⟨y,gx,gy,hb⟩
     ·rw[gy] at q1;cases q1
      exact⟨y1,gx,q2,Gu hb q3⟩
    ·rw[gx] at tQ;cases tQ
     by_cases hqd:q=d
     ·subst hqd;rw[gx] at ha;cases ha;exact Ih x
     ·exact M0 (uJ q h0 hq (by omega) a y ha gy) hb
   ·have hb:=of_decide_eq_false g3;refine fun w3 h3=>⟨⟨k,d+1,by omega,by omega,Xd,fun q h0 hq rM=>?_,T',rfl,h3⟩,by show 2* j+3-((d+1:Nat):Int).toNat<2* j+3-(d:Int).toNat;omega⟩;by_cases hqd:q=d
    ·subst hqd;intro a b' ha tQ;rw[gx] at ha;rw[gy] at tQ;cases ha;cases tQ;exact hb
    ·exact uJ q h0 hq (by omega)
  ·have iM:h.length≤d:=by have:=of_decide_eq_false g2;omega
   refine out fun q h0 hq a b' ha tQ=>?_;have:=(adC.1 ha).1;exact uJ q h0 hq (by omega) a b' ha tQ
 ·have Ju:2* j+2<d:=by have:=of_decide_eq_false g1;omega
  unfold cn.j2;refine q8 ?_;exact out fun q h0 hq=>uJ q h0 hq (by unfold par at hq;omega)
def Km{z x:Item}{i n:Nat}(hl:h.length=n+1)(hi:i<n)(hz:h[n]?=some z)(hx:h[i]?=some x):(x::(h.set i z).take n).Perm h:=by
 have h1:=uf (y:=z) hx;have h2:h.set i z=(h.set i z).take n++[z]:=by
  conv=>lhs;rw[←ad5 n (h.set i z)]
  congr 1
  have:(h.set i z)[n]?=some z:=by rw[ad7,if_neg (by omega)];exact hz
  rw[aef (by simp;omega),aeh (by simp;omega)];rw[adA (by simp;omega)] at this;rw[adU.inj this]
 rw[h2] at h1;have h3:(x::((h.set i z).take n++[z])).Perm (z::x::(h.set i z).take n):=((adJ (l₁:=(h.set i z).take n) (l₂:=[z])).cons x).trans (ad2.swap _ _ _);exact(List.perm_cons z).1 (h3.symm.trans h1)
def S7{α:Type}{r n c e o:Nat}{l:List α}{x:α}{g:α→LV}{f:HP→LH}[i:pa (some ⟨r,0,none⟩) n c L e (l.flatMap g) f](hf:∀x,(g x).length=e)(hx:l[o]?=some x)(h:T W L X):T W L (kp ⟨r,o* e,none⟩ (g x) X):=fun w hs=>by
 obtain⟨k,hk,_⟩:=i.at_;exact⟨xZ hs hk (ov hf l o x hx),h w hs⟩
def T.PG{A B C D:HP}(h:T W (A::B::C::D::R) X):T W (C::D::A::B::R) X:=T.perm h (adJ (l₁:=[C,D]) (l₂:=[A,B])|>.append_right R)
def T.RV{A B C:HP}(h:T W (A::B::C::R) X):T W (C::A::B::R) X:=T.perm h (adJ (l₁:=[C]) (l₂:=[A,B])|>.append_right R)
def T.RW{A B C:HP}(h:T W (A::B::C::R) X):T W (B::C::A::R) X:=T.perm h (adJ (l₁:=[B,C]) (l₂:=[A])|>.append_right R)
def SZ{i:Nat}{x:Item}(hv:cs[o]?=some (.l b h.length c))(hl:h.length<100000)(hx:h[i]?=some x)(hh:qF h)
 (hk:∀h',qF h'→(x::h').Perm h→T W (Sep.pt r (cs.set o (.l b h'.length c))::own b h'.length c 4 (h'.flatMap eB)::R) (K (.agg ⟨eB x⟩))):
 T W (Sep.pt r cs::own b h.length c 4 (h.flatMap eB)::R) (iZ (some ⟨r,o,none⟩) (i:Int) K):=by
 have hi:=(adC.1 hx).1;obtain⟨n,hn⟩:∃n,h.length=n+1:=⟨h.length-1,by omega⟩;have gz:=adA (show n<h.length by omega);generalize h[n]=z at gz;have e1:adx.wrap ((h.length:Int) -1)=(n:Int):=by rw[ah (by omega)];omega
 unfold iZ
 repeat' first|apply ww|apply wm;intro _|apply wb|with_reducible refine kB hv ?_|fail
 refine bV ⟨by omega,by omega⟩ fun rb hb=>?_;subst hb;rw[adB];refine dV gI hx ?_
 repeat' first|apply ww|apply wm;intro _|apply wb|with_reducible first|refine kB hv ?_|refine tv hv ?_|fail
 refine S7 gI hx ?_
 repeat' first|apply ww|apply wm;intro _|apply wb|with_reducible first|refine kB hv ?_|refine tv hv ?_|fail
 rw[e1];refine pn ⟨by omega,by omega⟩ ?_;rw[adB];refine dV gI gz ?_;refine pn ⟨by omega,by omega⟩ ?_;rw[adB];refine c9 rfl (nF gI hi (mV _) ?_)
 repeat' first|apply ww|apply wm;intro _|apply wb|with_reducible first|refine kB hv ?_|refine tv hv ?_|fail
 refine ny (b:=some ⟨rb,0,none⟩) fun qM _=>?_;refine u3 (by omega) ?_;refine vN (b:=some ⟨rb,0,none⟩) (i:=n) gI (by omega) ?_
 repeat' first|apply ww|apply wm;intro _|apply wb|with_reducible refine Dq hv rfl ?_|fail
 have yr:=pz (v:=.l (some ⟨rb,0,none⟩) n c) hv;refine az (fun g1=>?_) (fun g1=>?_)
 ·have a8:i<n:=by have:=of_decide_eq_true g1;omega
  have hp:=Km hn a8 gz hx;have FT:((h.set i z).take n).length=n:=by simp;omega
  rename_i r1 r2;refine T.PG ?_;have key:HD ((h.set i z).take n) i∨HU ((h.set i z).take n) i∧Kids ((h.set i z).take n) i:=by
   by_cases h0:i=0
   ·exact .inl (IB hh hn a8 gz (.inl h0))
   ·have LF:par i<h.length:=by unfold par;omega
    have gy:=adA LF;generalize h[par i]=y at gy;by_cases hb:bf z y
    ·exact .inr (Pp hh hn a8 gz (by omega) gy hb)
    ·refine .inl (IB hh hn a8 gz (.inr ?_));intro a b' ha nW;have GU:par i≠i:=by unfold par;omega
     have hpn:par i<n:=by unfold par;omega
     rw[ae1,if_pos a8,ad7,if_pos rfl,if_pos hi] at ha;rw[ae1,if_pos hpn,ad7,if_neg (fun h=>GU h.symm),gy] at nW;cases ha;cases nW;exact hb
  generalize (h.set i z).take n=m at hp FT key;subst FT;refine UO yr (by omega) a8 (key.imp id (·.2)) fun m2 Js FN=>?_
  repeat' first|apply ww|apply wm;intro _|apply wb
  have Qv:=FN.length_eq;rw[←Qv];have Qp:=pz (v:=.l (some ⟨rb,0,none⟩) m2.length c) hv;have hu2:HU m2 i:=by
   rcases Js with Js|⟨rfl,Ua⟩
   ·exact Js.hu i
   ·rcases key with k1|k1
    ·exact(k1.heap Ua).hu i
    ·exact k1.1
  refine V0 Qp (by omega) (by omega) hu2 fun m3 hm3 hp3=>?_
  repeat' first|apply ww|apply wm;intro _|apply wb
  have OY:=hp3.length_eq;have:=hk m3 hm3 ((hp3.trans FN).cons x|>.trans hp);rw[OY] at this;exact T.PG (T.drop (T.drop this))
 ·have VD:i=n:=by have:=of_decide_eq_false g1;omega
  subst VD
  repeat' first|apply ww|apply wm;intro _|apply wb
  have hm:(h.set i z).take i=h.take i:=by rw[List.take_set_of_le (adG _)]
  rw[hm];have FT:(h.take i).length=i:=by simp;omega
  have hh':qF (h.take i):=fun j h0 a b' ha nW=>by
   rw[ae1] at ha nW;split at ha
   ·split at nW
    ·exact hh j h0 a b' ha nW
    ·cases nW
   ·cases ha
  have:=hk (h.take i) hh' (by
   conv=>rhs;rw[←ad5 i h]
   have:h.drop i=[x]:=by
    rw[aef hi,aeh (by omega)]
    rw[adA hi] at hx
    rw[adU.inj hx]
   rw[this]
   exact adJ (l₁:=[x]) (l₂:=h.take i))
  rw[FT] at this;exact T.dp this
def Tt{x:Item}(hv:cs[o]?=some (.l b h.length c))(hl:h.length<10000)(hh:qF h)
 (hk:∀b' c' h',qF h'→h'.Perm (h++[x])→T W (Sep.pt r (cs.set o (.l b' h'.length c'))::own b' h'.length c' 4 (h'.flatMap eB)::R) (K (.tuple ⟨[]⟩))):
 T W (Sep.pt r cs::own b h.length c 4 (h.flatMap eB)::R) (gw (some ⟨r,o,none⟩) (eB x) K):=by
 unfold gw;refine qD fun r1=>Tb ?_
 repeat' first|apply ww|apply wm;intro _|apply wb|with_reducible first|refine kB hv ?_|refine tv hv ?_|fail
 refine jm (x:=x) (by simp) rfl rfl (by omega) (by omega) (mV _) fun b' c'=>?_
 repeat' first|apply ww|apply wm;intro _|apply wb|with_reducible first|refine Dq hv rfl ?_|refine kB (pz hv) ?_|fail
 rename_i r2;have e1:adx.wrap (((h.length+1:Nat):Int) -1)=(h.length:Int):=by rw[ah (by omega)];omega
 rw[e1];refine T.PG ?_;have hu:HU (h++[x]) h.length:=by
  refine⟨fun j h0 hj a b' ha nW=>?_,fun j h0 hp hi a b' ha nW=>?_⟩
  ·have a8:=(adC.1 ha).1;simp at a8;rw[adY (by omega)] at ha;rw[adY (by unfold par;omega)] at nW;exact hh j h0 a b' ha nW
  ·have a8:=(adC.1 ha).1;simp at a8;unfold par at hp;omega
 have yr:=pz (v:=.l b' (h.length+1) c') hv;have GX:(h++[x]).length=h.length+1:=by simp
 rw[←GX] at yr⊢;refine V0 yr (by omega) (by simp) hu fun m hm hp=>?_
 repeat' first|apply ww|apply wm;intro _|apply wb
 have:=hk b' c' m hm hp;rw[hp.length_eq] at this;exact T.PG (T.drop (T.drop this))
def PX{s:Int}(hv:cs[o]?=some (.l b h.length c))(hl:h.length<10000)(hh:qF h)
 (h1:∀x m,x.af=s→qF m→(x::m).Perm h→T W (Sep.pt r (cs.set o (.l b m.length c))::own b m.length c 4 (m.flatMap eB)::R) (K (.bool true)))
 (h0:(∀x∈h,x.af≠s)→T W (Sep.pt r cs::own b h.length c 4 (h.flatMap eB)::R) (K (.bool false))):
 T W (Sep.pt r cs::own b h.length c 4 (h.flatMap eB)::R) (gG (some ⟨r,o,none⟩) s K):=by
 unfold gG;refine tz ?_
 repeat' first|apply ww|apply wm;intro _|apply wb|with_reducible refine kB hv ?_|fail
 intro w hs;refine⟨fun vs w=>∃(i:Nat),i≤h.length∧(∀j x,j<i→h[j]?=some x→x.af≠s)∧vs=[.bool false,.l b h.length c,.i (h.length:Int),.i (i:Int)]∧St W w (Sep.pt r cs::own b h.length c 4 (h.flatMap eB)::R),
  fun vs _=>match vs with|[_,_,_,.int _ d]=>h.length-d.toNat|_=>0,⟨0,adK _,(fun j x hj=>by omega),rfl,hs⟩,?_⟩
 rintro b1 uF qg uE n2 n3 w2 ⟨i,hi,DU,e,hs⟩;cases e
 refine T.at ?_ hs;refine az (fun g1=>?_) (fun g1=>?_)
 ·have a8:i<h.length:=by have:=of_decide_eq_true g1;omega
  have gx:=adA a8;generalize h[i]=x at gx;have e5:adx.wrap ((i:Int)+1)=((i+1:Nat):Int):=by rw[ah (by omega)];omega
  refine bV ⟨by omega,by omega⟩ fun rb hb=>?_;subst hb;rw[adB];refine dV gI gx ?_
  repeat' first|apply ww|apply wm;intro _|apply wb
  rename_i r1;rw[e5];refine az (fun g2=>?_) (fun g2=>?_)
  ·refine T.RV ?_;refine SZ hv (by omega) gx hh fun m hm hp=>?_
   repeat' first|apply ww|apply wm;intro _|apply wb
   refine T.RW (T.drop ?_);exact h1 x m (by simpa using g2) hm hp
  ·refine T.drop fun w3 h3=>⟨⟨i+1,a8,fun j y hj hy=>?_,rfl,h3⟩,by show h.length-((i+1:Nat):Int).toNat<h.length-(i:Int).toNat;omega⟩;by_cases FW:j=i
   ·subst FW;rw[gx] at hy;cases hy;simpa using g2
   ·exact DU j y (by omega) hy
 ·have iM:i=h.length:=by have:=of_decide_eq_false g1;omega
  refine h0 fun x hx=>?_;obtain⟨j,hj⟩:=aeT hx;exact DU j x (by have:=(adC.1 hj).1;omega) hj
end
class Pd{α β:Type}(P:α→HP)(Q:β→HP)(L:LH)(x:outParam α)(y:outParam β)(F:outParam (α→β→LH)):Prop where
 at_:∃R:LH,L.Perm (P x::Q y::R)∧∀x' y',(F x' y').Perm (P x'::Q y'::R)
section
variable {α β:Type} {P:α→HP} {Q:β→HP} {L:LH} {x:α} {y:β}
def Lc.perm{f:α→LH}(h:Lc P L x f):∃R:LH,L.Perm (P x::R)∧∀x',(f x').Perm (P x'::R):=by
 obtain⟨k,h1,h2⟩:=h.at_;exact⟨L.eraseIdx k,o8 h1,fun y=>by rw[h2];exact(set_perm h1).symm⟩
instance(priority:=low) Pd.tail{A:HP}{F:α→β→LH}[h:Pd P Q L x y F]:Pd P Q (A::L) x y (fun a b=>A::F a b):=by
 obtain⟨R,h1,h2⟩:=h.at_;exact⟨A::R,(h1.cons A).trans ((ad2.swap _ _ _).trans ((ad2.swap _ _ _).cons _)),fun a b=>((h2 a b).cons A).trans ((ad2.swap _ _ _).trans ((ad2.swap _ _ _).cons _))⟩
instance Pd.acZ{f:α→LH}[h:Lc P L x f]:Pd P Q (Q y::L) x y (fun a b=>Q b::f a):=by
 obtain⟨R,h1,h2⟩:=h.perm;exact⟨R,(h1.cons _).trans (ad2.swap _ _ _),fun a b=>((h2 a).cons _).trans (ad2.swap _ _ _)⟩
def zj{W:World}{X:WK}{F:α→β→LH}[i:Pd P Q L x y F](h:∀R,(∀M a b Y,T W (M++F a b) Y→T W (M++P a::Q b::R) Y)→T W (P x::Q y::R) X):T W L X:=by
 obtain⟨R,h1,h2⟩:=i.at_;exact T.perm (h R fun M a b Y hy=>T.perm hy ((h2 a b).symm.append_left M)) h1
end
def St.oM{W w:World}:∀(M R:LH),St W w (yT M::R)→St W w (M++R)
 |[],R,h=>h.drop
 |A::M,R,h=>(St.oM M (A::R) (h.split.perm (ad2.swap _ _ _))).perm aeM
def St.nH{W w:World}:∀(M R:LH),St W w (M++R)→St W w (yT M::R)
 |[],R,h=>h.push trivial
 |A::M,R,h=>St.join ((St.nH M (A::R) (h.perm aeM.symm)).perm (ad2.swap _ _ _))
structure Core where
 la:Nat
 lk:Nat
 ti:Nat
 tn:Nat
 vs:LV
 stamps:List ln
 ends:List Item
 clock:Int
 af:Int
def gX(q:Core)(b1:OA)(c1:Nat)(b2:OA)(c2:Nat)(b3:OA)(n3 c3:Nat):LV:=
 [.l b1 q.vs.length c1,.p (some (ad q.la 0)),.p (some (ad q.lk 0)),.p (some (ad q.ti 0)),.p (some (ad q.tn 0)),.l b2 q.stamps.length c2,.l b3 n3 c3,.i q.clock,.i q.af]
def coreS(p:Nat)(q:Core)(b1:OA)(c1:Nat)(b2:OA)(c2:Nat)(b3:OA)(c3:Nat)(h:List Item):LH:=
 [Sep.pt p (gX q b1 c1 b2 c2 b3 h.length c3),own b1 q.vs.length c1 1 q.vs,own b2 q.stamps.length c2 2 (q.stamps.flatMap mh),own b3 h.length c3 4 (h.flatMap eB)]
def eY(p:Nat)(q:Core):HP:=
 Sq fun z:(OA×Nat)×(OA×Nat)×(OA×Nat)×List Item=>Lm (qF z.2.2.2∧z.2.2.2.Perm q.ends) (yT (coreS p q z.1.1 z.1.2 z.2.1.1 z.2.1.2 z.2.2.1.1 z.2.2.1.2 z.2.2.2))
def tW(q:Core)(o:Nat):Option Value:=match o with
 |1=>some (.p (some (ad q.la 0)))
 |2=>some (.p (some (ad q.lk 0)))
 |3=>some (.p (some (ad q.ti 0)))
 |4=>some (.p (some (ad q.tn 0)))
 |7=>some (.i q.clock)
 |8=>some (.i q.af)
 |_=>none
section
variable {W:World} {L:LH} {K:VK} {X:WK} {p o:Nat} {q:Core} {f:Core→LH} {v:Value}
def Dd{R:LH}(hx:∀b1 c1 b2 c2 b3 c3 h,qF h→h.Perm q.ends→T W (Sep.pt p (gX q b1 c1 b2 c2 b3 h.length c3)::own b1 q.vs.length c1 1 q.vs::own b2 q.stamps.length c2 2 (q.stamps.flatMap mh)::own b3 h.length c3 4 (h.flatMap eB)::R) X):T W (eY p q::R) X:=fun w hs=>by
 obtain⟨⟨⟨b1,c1⟩,⟨b2,c2⟩,⟨b3,c3⟩,hp⟩,hs⟩:=hs.ex;obtain⟨⟨h1,h2⟩,hs⟩:=hs.and;exact hx b1 c1 b2 c2 b3 c3 hp h1 h2 w (St.oM _ _ hs)
def vp{R:LH}{b1:OA}{c1:Nat}{b2:OA}{c2:Nat}{b3:OA}{c3:Nat}{h:List Item}(h1:qF h)(h2:h.Perm q.ends)(hx:T W (eY p q::R) X):T W (Sep.pt p (gX q b1 c1 b2 c2 b3 h.length c3)::own b1 q.vs.length c1 1 q.vs::own b2 q.stamps.length c2 2 (q.stamps.flatMap mh)::own b3 h.length c3 4 (h.flatMap eB)::R) X:=fun w hs=>
 hx w (St.ow ((b1,c1),(b2,c2),(b3,c3),h) (St.and_intro ⟨h1,h2⟩ (St.nH _ _ hs)))
def zi{α:Type}{P:α→HP}{a:α}{f:α→LH}[i:Lc P L a f](h:∀R,(∀M y Y,T W (M++f y) Y→T W (M++P y::R) Y)→T W (P a::R) X):T W L X:=by
 obtain⟨R,h1,h2⟩:=i.perm;exact T.perm (h R fun M y Y hy=>T.perm hy ((h2 y).symm.append_left M)) h1
def T.Dy{R:LH}{A B C:HP}(h:T W (A::C::B::R) X):T W (A::B::C::R) X:=T.perm h ((ad2.swap _ _ _).cons _)
def T.Hk{R:LH}{A B C D:HP}(h:T W (A::D::B::C::R) X):T W (A::B::C::D::R) X:=T.perm h ((adJ (l₁:=[B,C]) (l₂:=[D])|>.append_right R).cons _)
def T.Ak{R:LH}{A B C D:HP}(h:T W (A::B::C::D::R) X):T W (A::D::B::C::R) X:=T.perm h ((adJ (l₁:=[D]) (l₂:=[B,C])|>.append_right R).cons _)
def ng[i:Lc (eY p) L q f](hx:∀b1 c1 b2 c2 b3 c3 h R,qF h→h.Perm q.ends→
 (∀M q' b1 c1 b2 c2 b3 c3 h Y,qF h→h.Perm q'.ends→T W (M++f q') Y→T W (M++Sep.pt p (gX q' b1 c1 b2 c2 b3 h.length c3)::own b1 q'.vs.length c1 1 q'.vs::own b2 q'.stamps.length c2 2 (q'.stamps.flatMap mh)::own b3 h.length c3 4 (h.flatMap eB)::R) Y)→T W (Sep.pt p (gX q b1 c1 b2 c2 b3 h.length c3)::own b1 q.vs.length c1 1 q.vs::own b2 q.stamps.length c2 2 (q.stamps.flatMap mh)::own b3 h.length c3 4 (h.flatMap eB)::R) X):T W L X:=
 zi (P:=eY p) fun R hc=>Dd fun b1 c1 b2 c2 b3 c3 h h1 h2=>hx b1 c1 b2 c2 b3 c3 h R h1 h2 fun M q' b1 c1 b2 c2 b3 c3 h Y g1 g2 hy=>
  T.perm (vp (R:=M++R) g1 g2 (T.perm (hc M q' Y hy) (aeM.symm))) (by
   have:=adJ (l₁:=M) (l₂:=[Sep.pt p (gX q' b1 c1 b2 c2 b3 h.length c3),own b1 q'.vs.length c1 1 q'.vs,own b2 q'.stamps.length c2 2 (q'.stamps.flatMap mh),own b3 h.length c3 4 (h.flatMap eB)])|>.append_right R
   simpa using this)
def wL{b1:OA}{c1:Nat}{b2:OA}{c2:Nat}{b3:OA}{c3 n:Nat}(hv:tW q o=some v):(gX q b1 c1 b2 c2 b3 n c3)[o]?=some v:=by
 unfold tW at hv;split at hv<;>first|exact hv|cases hv
def V'[i:Lc (eY p) L q f](hv:tW q o=some v)(h:T W L (K v)):T W L (ld ⟨p,o,none⟩ K):=by
 have hL:f q=L:=i.same;refine ng (p:=p) fun b1 c1 b2 c2 b3 c3 hp R h1 h2 hc=>?_;refine kB (r:=p) (wL hv) ?_;exact hc [] q _ _ _ _ _ _ _ _ h1 h2 (by rw[hL];exact h)
def Wa[i:Lc (eY p) L q f](hv:tW q o=some v)(h:T W L X):T W L (kp ⟨p,o,none⟩ [v] X):=by
 have hL:f q=L:=i.same;refine ng (p:=p) fun b1 c1 b2 c2 b3 c3 hp R h1 h2 hc=>?_;refine tv (r:=p) (wL hv) ?_;exact hc [] q _ _ _ _ _ _ _ _ h1 h2 (by rw[hL];exact h)
class Gc(q:Core)(o:Nat)(v:outParam Value):Prop where
 is:tW q o=some v
instance:Gc q 1 (.p (some (ad q.la 0))):=⟨rfl⟩
instance:Gc q 2 (.p (some (ad q.lk 0))):=⟨rfl⟩
instance:Gc q 3 (.p (some (ad q.ti 0))):=⟨rfl⟩
instance:Gc q 4 (.p (some (ad q.tn 0))):=⟨rfl⟩
instance:Gc q 7 (.i q.clock):=⟨rfl⟩
instance:Gc q 8 (.i q.af):=⟨rfl⟩
instance[i:Lc (eY p) L q f][g:Gc q o v]:Lv L p o v:=⟨fun h=>V' (i:=i) g.is h,fun h=>Wa (i:=i) g.is h⟩
def G9[i:Lc (eY p) L q f]{t:Int}(h:T W (f {q with clock:=t}) X):T W L (st ⟨p,7,none⟩ (.i t) X):=by
 refine ng (p:=p) fun b1 c1 b2 c2 b3 c3 hp R h1 h2 hc=>?_;unfold gX
 repeat' first|apply ww|apply wm;intro _|apply wb
 exact hc [] {q with clock:=t} _ _ _ _ _ _ _ _ h1 h2 h
def G8[i:Lc (eY p) L q f]{t:Int}(h:T W (f {q with af:=t}) X):T W L (st ⟨p,8,none⟩ (.i t) X):=by
 refine ng (p:=p) fun b1 c1 b2 c2 b3 c3 hp R h1 h2 hc=>?_;unfold gX
 repeat' first|apply ww|apply wm;intro _|apply wb
 exact hc [] {q with af:=t} _ _ _ _ _ _ _ _ h1 h2 h
def rv[i:Lc (eY p) L q f](hl:q.vs.length<1000000)(h1v:v.oneCell'=true)(hcv:dg v=[v])(h:T W (f {q with vs:=q.vs++[v]}) (K (.tuple ⟨[]⟩))):T W L (dE (some ⟨p,0,none⟩) v K):=by
 refine ng (p:=p) fun b1 c1 b2 c2 b3 c3 hp R h1 h2 hc=>?_;unfold dE gX;rw[hcv]
 repeat' first|apply ww|apply wm;intro _|apply wb
 refine Mr (ys:=[v]) (n:=q.vs.length) (bytes:=8) rfl rfl (by omega) (fun u hu=>by simp at hu;rw[hu];exact h1v) (fun b' c'=>?_) (by omega)
 repeat' first|apply ww|apply wm;intro _|apply wb
 have:=hc [] {q with vs:=q.vs++[v]} b' c' b2 c2 b3 c3 hp _ h1 h2 h;unfold gX at this;simp only[adD,aeZ] at this;exact T.drop this
def Vb[i:Lc (eY p) L q f](h:T W L (K (.i (q.vs.length:Int)))):T W L (kR (some ⟨p,0,none⟩) K):=by
 have hL:f q=L:=i.same;refine ng (p:=p) fun b1 c1 b2 c2 b3 c3 hp R h1 h2 hc=>?_;unfold kR gX
 repeat' first|apply ww|apply wm;intro _|apply wb
 exact hc [] q _ _ _ _ _ _ _ _ h1 h2 (by rw[hL];exact h)
def JD[i:Lc (eY p) L q f]{s a:Int}(hr:oY q.stamps)(hl:q.stamps.length<1099511627)(hs:∀x∈q.stamps,x.1<s)(h:T W (f {q with stamps:=q.stamps++[(s,a)]}) (K (.bool true))):T W L (eO (some ⟨p,5,none⟩) s a K):=by
 refine ng (p:=p) fun b1 c1 b2 c2 b3 c3 hp R h1 h2 hc=>?_;refine T.Dy ?_;refine Tw rfl hr hl hs fun b' c'=>?_;refine T.Dy ?_;have:=hc [] {q with stamps:=q.stamps++[(s,a)]} b1 c1 b' c' b3 c3 hp _ h1 h2 h;simp only[gX,adD,aeZ] at this;exact this
def NX[i:Lc (eY p) L q f]{s a:Int}{l0:List ln}(hr:oY q.stamps)(hl:q.stamps.length<1099511627)(hs:q.stamps=l0++[(s,a)])(h:T W (f {q with stamps:=l0}) (K (.bool true))):T W L (eJ (some ⟨p,5,none⟩) s K):=by
 refine ng (p:=p) fun b1 c1 b2 c2 b3 c3 hp R h1 h2 hc=>?_;refine T.Dy ?_;refine P0 rfl hr hl hs fun b' c'=>?_;refine T.Dy ?_;exact hc [] {q with stamps:=l0} b1 c1 b' c' b3 c3 hp _ h1 h2 h
def Lb[i:Lc (eY p) L q f]{from_ to:Int}{uu:Bool}(hr:oY q.stamps)(hl:q.stamps.length<100000)
 (h:∀b' c' out,out=(if uu then(nh from_ to q.stamps).reverse else nh from_ to q.stamps)→T W (own b' out.length c' 2 (out.flatMap mh)::L) (K (.l b' out.length c'))):T W L (cD (some ⟨p,5,none⟩) from_ to uu K):=by
 have hL:f q=L:=i.same;refine ng (p:=p) fun b1 c1 b2 c2 b3 c3 hp R h1 h2 hc=>?_;refine MX (b:=b2) (c:=c2) rfl hr hl fun b' c' out ho=>?_;exact hc [_] q b1 c1 b2 c2 b3 c3 hp _ h1 h2 (by rw[hL];exact h b' c' out ho)
def Ee[i:Lc (eY p) L q f]{x:Item}{e':List Item}(hl:q.ends.length<10000)(he:e'.Perm (q.ends++[x]))(h:T W (f {q with ends:=e'}) (K (.tuple ⟨[]⟩))):T W L (gw (some ⟨p,6,none⟩) (eB x) K):=by
 refine ng (p:=p) fun b1 c1 b2 c2 b3 c3 hp R h1 h2 hc=>?_;refine T.Hk ?_;refine Tt rfl (by rw[h2.length_eq];exact hl) h1 fun b' c' h' g1 g2=>?_;refine T.Ak ?_;exact hc [] {q with ends:=e'} b1 c1 b2 c2 b' c' h' _ g1 (g2.trans ((h2.append_right _).trans he.symm)) h
def Gi[i:Lc (eY p) L q f]{s:Int}(hl:q.ends.length<10000)
 (h1:∀x e',x.af=s→(x::e').Perm q.ends→T W (f {q with ends:=e'}) (K (.bool true)))(h0:(∀x∈q.ends,x.af≠s)→T W L (K (.bool false))):T W L (gG (some ⟨p,6,none⟩) s K):=by
 have hL:f q=L:=i.same;rw[←hL] at h0;refine ng (p:=p) fun b1 c1 b2 c2 b3 c3 hp R g1 g2 hc=>?_;refine T.Hk ?_;refine PX rfl (by rw[g2.length_eq];exact hl) g1 (fun x m hx hm hpm=>?_) (fun DU=>?_)
 ·refine T.Ak ?_;exact hc [] {q with ends:=m} b1 c1 b2 c2 b3 c3 m _ hm (ad2.refl _) (h1 x m hx (hpm.trans g2))
 ·refine T.Ak ?_;exact hc [] q b1 c1 b2 c2 b3 c3 hp _ g1 g2 (h0 fun x hx=>DU x (g2.mem_iff.2 hx))
end
def gL(a:aS):(ak a).length=14:=rfl
def rI(k:Kept):(aM k).length=33:=rfl
section
variable {x1 x2 x3 x4 x5 x6 x7 x8 x9 zg zf ze zb Cf GO GN Pf Pe SM SK SJ SI SH SG SF SE SD SC Zs Zr Zq Zp Zo:Value} {k k':Kept} {i:Int} {m t:Move}
def zK:Kept:=⟨zT,zT,0⟩
instance:Wr [x1,x2,x3,x4,x5,x6,x7,x8,x9,zg,zf,ze,zb,Cf,GO,GN,Pf,Pe,SM,SK,SJ,SI,SH,SG,SF,SE,SD,SC,Zs,Zr,Zq,Zp,Zo] 0 (aM k) (aM k):=⟨rfl,adG _,j0 k⟩
instance:Wr (aM k) 0 (aM k') (aM k'):=⟨rfl,adG _,j0 k'⟩
instance:Wr [x1,x2,x3,x4,x5,x6,x7,x8,x9,zg,zf,ze,zb,Cf,GO,GN,Pf,Pe,SM,SK,SJ,SI,SH,SG,SF,SE,SD,SC,Zs,Zr,Zq,Zp,Zo] 0 [.u 0,.u 0,.u 0,.u 0,.u 0,.u 0,.u 0,.u 0,.u 0,.u 0,.i 0,.i 0,.i 0,.i 0,.i 0,.i 0,.u 0,.u 0,.u 0,.u 0,.u 0,.u 0,.u 0,.u 0,.u 0,.u 0,.i 0,.i 0,.i 0,.i 0,.i 0,.i 0,.i 0] (aM zK):=⟨rfl,adG _,j0 zK⟩
instance:Wr (aM k) 32 [.i i] (aM {k with fate:=i}):=⟨rfl,by show 33≤33;decide,fun v h=>by simp at h;subst h;rfl⟩
instance:Wr (aM k) 30 [.i i] (aM {k with move:={k.move with af:=i}}):=⟨rfl,by show 31≤33;decide,fun v h=>by simp at h;subst h;rfl⟩
instance:Wr (aM k) 31 [.i i] (aM {k with move:={k.move with born:=i}}):=⟨rfl,by show 32≤33;decide,fun v h=>by simp at h;subst h;rfl⟩
instance:Sub (aM k) 16 2 (nm k.move.id):=⟨uC rfl rfl⟩
instance:Wr [x1,x2,x3,x4,x5,x6,x7,x8,x9,zg,zf,ze,zb,Cf,GO,GN,Pf,Pe,SM,SK,SJ,SI,SH,SG,SF,SE,SD,SC,Zs,Zr,Zq,Zp,Zo] 0 (ai m++(ai t++[.i i])) (aM ⟨m,t,i⟩):=⟨rfl,adG _,j0 ⟨m,t,i⟩⟩
end
class Pc(M L:LH):Prop where
 is:M.Sublist L
instance{L:LH}:Pc L L:=⟨adP.refl _⟩
instance(priority:=low){M L:LH}{A:HP}[h:Pc M L]:Pc M (A::L):=⟨h.is.cons A⟩
instance{M L:LH}{A:HP}[h:Pc M L]:Pc (A::M) (A::L):=⟨h.is.cons_cons A⟩
instance{R L:LH}[h:Pc R L]:Pc ([]++R) L:=⟨h.is⟩
instance{M R L:LH}{A:HP}[h:Pc (A::(M++R)) L]:Pc (A::M++R) L:=⟨h.is⟩
def nZ{M L:LH}[h:Pc M L]:M.Sublist L:=h.is
def T.sub{W:World}{L M:LH}{X:WK}(h:T W M X)(s:M.Sublist L):T W L X:=by
 obtain⟨D,hD⟩:=s.exists_perm_append;have key:∀(D:LH),T W (D++M) X:=fun D=>by
  induction D with
  |nil=>exact h
  |cons A D ih=>exact T.drop ih
 exact T.perm (key D) (hD.trans adJ)
def oH{α:Type}(g:α→LV)(e l:Nat)(x:Nat×List α):HP:=
 Sq fun z:OA×Nat=>yT [Sep.pt l [.l z.1 x.2.length z.2,.p (some (ad x.1 0))],own z.1 x.2.length z.2 e (x.2.flatMap g)]
def om{W:World}{L:LH}{α:Type}{b b':OA}{n c m c1 e bytes:Nat}{zero:LV}{l0 l1:List α}{g:α→LV}{f f':HP→LH}{K:OA→Nat→Nat→WK}[i:pa b n c L e (l0.flatMap g) f][j:pa b' m c1 L e (l1.flatMap g) f'](hg:∀x,(g x).length=e)(hz:zero.length=e)
 (hb:(n+m)* bytes≤140737488355328∧n+m≤9223372036854775807)(h1:∀x,∀v∈g x,v.oneCell'=true)(h:∀b2 c2,T W (f (own b2 (n+m) c2 e ((l0++l1).flatMap g))) (K b2 (n+m) c2)):T W L (gj e bytes zero b n c b' m K):=fun w hs=>by
 obtain⟨k,hk,e1⟩:=i.at_;obtain⟨k2,rj,_⟩:=j.at_;obtain⟨vh,lK⟩:=JP (m:=m) hs rj;refine qb hs hk vh lK hz hb.1 hb.2 (fun v hv=>?_) fun b2 c2 w' h'=>h b2 c2 w' (by rw[e1,aex];exact h');obtain⟨x,_,hx⟩:=List.mem_flatMap.1 hv;exact h1 x v hx
section
variable {W:World} {L R:LH} {K:VK} {X:WK} {α:Type} {g:α→LV} {e l p:Nat} {items:List α} {f:Nat×List α→LH}
def oq(h:∀b c,T W (Sep.pt l [.l b items.length c,.p (some (ad p 0))]::own b items.length c e (items.flatMap g)::R) X):T W (oH g e l (p,items)::R) X:=fun w hs=>by
 obtain⟨⟨b,c⟩,hs⟩:=hs.ex;exact h b c w (St.oM _ _ hs)
def pX{b:OA}{n c:Nat}(hn:n=items.length)(h:T W (oH g e l (p,items)::R) X):T W (Sep.pt l [.l b n c,.p (some (ad p 0))]::own b n c e (items.flatMap g)::R) X:=fun w hs=>by
 subst hn;exact h w (St.ow (b,c) (St.nH _ _ hs))
def ss{M:LH}{b:OA}{n c:Nat}(hn:n=items.length)(h:T W (M++oH g e l (p,items)::R) X):T W (M++Sep.pt l [.l b n c,.p (some (ad p 0))]::own b n c e (items.flatMap g)::R) X:=
 T.perm (pX (g:=g) (e:=e) (l:=l) (p:=p) (R:=M++R) hn (T.perm h aeM.symm)) (by
  have:=adJ (l₁:=M) (l₂:=[Sep.pt l [.l b n c,.p (some (ad p 0))],own b n c e (items.flatMap g)])|>.append_right R
  simpa using this)
def Cm[i:Lc (oH g e l) L (p,items) f](h:∀b c R,(∀M b' n' c' AT Y,n'=AT.length→T W (M++f (p,AT)) Y→T W (M++Sep.pt l [.l b' n' c',.p (some (ad p 0))]::own b' n' c' e (AT.flatMap g)::R) Y)→
 T W (Sep.pt l [.l b items.length c,.p (some (ad p 0))]::own b items.length c e (items.flatMap g)::R) X):T W L X:=
 zi (P:=oH g e l) fun R hc=>oq fun b c=>h b c R fun M b' n' c' AT Y hn hy=>
  T.perm (pX (g:=g) (e:=e) (l:=l) (p:=p) (R:=M++R) hn (T.perm (hc M _ Y hy) aeM.symm)) (by
   have:=adJ (l₁:=M) (l₂:=[Sep.pt l [.l b' n' c',.p (some (ad p 0))],own b' n' c' e (AT.flatMap g)])|>.append_right R
   simpa using this)
end
section
variable {W:World} {L R:LH} {K:VK} {X:WK} {l p:Nat} {items:List aS} {f:Nat×List aS→LH} {F:Nat×List aS→Core→LH} {q:Core} {x y:aS}
def Iw[i:Lc (oH ak 14 l) L (p,items) f](h:T W L (K (.i (items.length:Int)))):T W L (bX (some ⟨l,0,none⟩) K):=by
 have hL:f (p,items)=L:=i.same;refine Cm (g:=ak) (e:=14) (l:=l) fun b c R hc=>?_;unfold bX
 repeat' first|apply ww|apply wm;intro _|apply wb
 exact hc [] _ _ _ _ _ rfl (by rw[hL];exact h)
def OK{b:OA}{c:Nat}{v:Value}{n:Nat}{f1:LV→LH}{f2:HP→LH}[i:Lc (Sep.pt l) L [.l b items.length c,v] f1][j:pa b items.length c L 14 (items.flatMap ak) f2](hx:items[n]?=some x)(hl:items.length<1000000)
 (h:T W L (K (.tuple ⟨[.agg ⟨ak x⟩,.bool true]⟩))):T W L (bC (some ⟨l,0,none⟩) (n:Int) K):=by
 have a8:=(adC.1 hx).1;unfold bC
 repeat' first|apply ww|apply wm;intro _|apply wb
 refine fx (by simp) ?_;unfold bX
 repeat' first|apply ww|apply wm;intro _|apply wb
 unfold bC.j1;refine fx (by simp;omega) ?_
 repeat' first|apply ww|apply wm;intro _|apply wb
 refine bV ⟨by omega,by omega⟩ fun r hr=>?_;subst hr;rw[adB];refine dV gL hx ?_
 repeat' first|apply ww|apply wm;intro _|apply wb
 exact T.dp h
def YN[i:Lc (oH ak 14 l) L (p,items) f]{n:Nat}(hx:items[n]?=some x)(hl:items.length<1000000)(h:T W L (K (.tuple ⟨[.agg ⟨ak x⟩,.bool true]⟩))):T W L (bC (some ⟨l,0,none⟩) (n:Int) K):=by
 have hL:f (p,items)=L:=i.same;refine Cm (g:=ak) (e:=14) (l:=l) fun b c R hc=>?_;refine OK hx hl ?_;exact hc [] _ _ _ _ _ rfl (by rw[hL];exact h)
abbrev wO(r1 r3:Nat):Value:=.func (.func N.aZ) ⟨[]⟩ ⟨[.p (some (ad r1 0)),.p (some (ad r3 0))]⟩
abbrev zD(r4 r1 r2:Nat):Value:=.func (.func N.aY) ⟨[]⟩ ⟨[.p (some (ad r4 0)),.p (some (ad r1 0)),.p (some (ad r2 0))]⟩
def OL[i:Lc (oH ak 14 l) L (p,items) f][j:Pd (oH ak 14 l) (eY p) L (p,items) q F](hl:items.length<1000000)(hv:q.vs.length<1000000)
 (h:∀r1 r3,T W (Sep.pt r3 [.i (items.length:Int)]::Sep.pt r1 [.p (some (ad l 0))]::F (p,items++[x]) {q with vs:=q.vs++[wO r1 r3]}) (K (.i (items.length:Int)))):
 T W L (cY (some ⟨l,0,none⟩) (ak x) K):=by
 refine zj (P:=oH ak 14 l) (Q:=eY p) fun R hc=>?_;refine oq fun b c=>?_;unfold cY
 repeat' first|apply ww|apply wm;intro _|apply wb
 refine jm (x:=x) (by simp) rfl rfl (by omega) (by omega) (gn _) fun b' c'=>?_
 repeat' first|apply ww|apply wm;intro _|apply wb
 refine rv (p:=p) hv rfl rfl ?_
 repeat' first|apply ww|apply wm;intro _|apply wb
 rename_i r1 r2 r3 r4;refine T.sub (M:=[Sep.pt r3 _,Sep.pt r1 _]++Sep.pt l _::own b' _ c' 14 _::eY p _::R) ?_ (by repeat (first|exact adP.refl _|apply adP.cons_cons|apply adP.cons));exact ss (by simp) (hc [_,_] _ _ _ (h r1 r3))
def Vj[i:Lc (oH ak 14 l) L (p,items) f][j:Pd (oH ak 14 l) (eY p) L (p,items) q F]{n:Nat}(hx:items[n]?=some y)(hl:items.length<1000000)(hv:q.vs.length<1000000)
 (h:∀r4 r1 r2,T W (Sep.pt r4 (ak y)::Sep.pt r2 [.i (n:Int)]::Sep.pt r1 [.p (some (ad l 0))]::F (p,items.set n x) {q with vs:=q.vs++[zD r4 r1 r2]}) (K (.bool true))):
 T W L (dH (some ⟨l,0,none⟩) (n:Int) (ak x) K):=by
 have a8:=(adC.1 hx).1;refine zj (P:=oH ak 14 l) (Q:=eY p) fun R hc=>?_;refine oq fun b c=>?_;unfold dH
 repeat' first|apply ww|apply wm;intro _|apply wb|with_reducible refine OK hx hl ?_|fail
 refine bV ⟨by omega,by omega⟩ fun r hr=>?_;subst hr;rw[adB];refine c9 rfl (nF gL a8 (gn _) ?_)
 repeat' first|apply ww|apply wm;intro _|apply wb
 refine rv (p:=p) hv rfl rfl ?_
 repeat' first|apply ww|apply wm;intro _|apply wb
 rename_i r1 r2 r3 r4;refine T.sub (M:=[Sep.pt r4 _,Sep.pt r2 _,Sep.pt r1 _]++Sep.pt l _::own (some ⟨r,0,none⟩) _ c 14 _::eY p _::R) ?_ (by repeat (first|exact adP.refl _|apply adP.cons_cons|apply adP.cons));exact ss (by simp) (hc [_,_,_] _ _ _ (h r4 r1 r2))
def Vk[i:Lc (oH ak 14 l) L (p,items) f](hl:items.length<1000000)(h:∀b c,T W (own b items.length c 14 (items.flatMap ak)::L) (K (.l b items.length c))):T W L (dI (some ⟨l,0,none⟩) K):=by
 have hL:f (p,items)=L:=i.same;refine Cm (g:=ak) (e:=14) (l:=l) fun b c R hc=>?_;unfold dI
 repeat' first|apply ww|apply wm;intro _|apply wb
 refine gB (e:=14) ?_;refine om (b:=none) (l0:=([]:List aS)) (l1:=items) gL rfl (by omega) gn fun b' c'=>?_;have:=hc [own b' items.length c' 14 (items.flatMap ak)] b items.length c items _ rfl (by rw[hL];exact h b' c');simpa using this
end
section
variable {W:World} {L R:LH} {K:VK} {X:WK} {l p:Nat} {items:List Kept} {f:Nat×List Kept→LH} {F:Nat×List Kept→Core→LH} {q:Core} {x y:Kept}
def Ip[i:Lc (oH aM 33 l) L (p,items) f](h:T W L (K (.i (items.length:Int)))):T W L (cj (some ⟨l,0,none⟩) K):=by
 have hL:f (p,items)=L:=i.same;refine Cm (g:=aM) (e:=33) (l:=l) fun b c R hc=>?_;unfold cj
 repeat' first|apply ww|apply wm;intro _|apply wb
 exact hc [] _ _ _ _ _ rfl (by rw[hL];exact h)
def OC{b:OA}{c:Nat}{v:Value}{n:Nat}{f1:LV→LH}{f2:HP→LH}[i:Lc (Sep.pt l) L [.l b items.length c,v] f1][j:pa b items.length c L 33 (items.flatMap aM) f2](hx:items[n]?=some x)(hl:items.length<1000000)
 (h:T W L (K (.tuple ⟨[.agg ⟨aM x⟩,.bool true]⟩))):T W L (bE (some ⟨l,0,none⟩) (n:Int) K):=by
 have a8:=(adC.1 hx).1;unfold bE
 repeat' first|apply ww|apply wm;intro _|apply wb
 refine fx (by simp) ?_;unfold cj
 repeat' first|apply ww|apply wm;intro _|apply wb
 unfold bE.j1;refine fx (by simp;omega) ?_
 repeat' first|apply ww|apply wm;intro _|apply wb
 refine bV ⟨by omega,by omega⟩ fun r hr=>?_;subst hr;rw[adB];refine dV rI hx ?_
 repeat' first|apply ww|apply wm;intro _|apply wb
 exact T.dp h
def OB[i:Lc (oH aM 33 l) L (p,items) f]{n:Nat}(hx:items[n]?=some x)(hl:items.length<1000000)(h:T W L (K (.tuple ⟨[.agg ⟨aM x⟩,.bool true]⟩))):T W L (bE (some ⟨l,0,none⟩) (n:Int) K):=by
 have hL:f (p,items)=L:=i.same;refine Cm (g:=aM) (e:=33) (l:=l) fun b c R hc=>?_;refine OC hx hl ?_;exact hc [] _ _ _ _ _ rfl (by rw[hL];exact h)
abbrev qU(r1 r3:Nat):Value:=.func (.func N.bB) ⟨[]⟩ ⟨[.p (some (ad r1 0)),.p (some (ad r3 0))]⟩
abbrev wN(r4 r1 r2:Nat):Value:=.func (.func N.bA) ⟨[]⟩ ⟨[.p (some (ad r4 0)),.p (some (ad r1 0)),.p (some (ad r2 0))]⟩
def OD[i:Lc (oH aM 33 l) L (p,items) f][j:Pd (oH aM 33 l) (eY p) L (p,items) q F](hl:items.length<1000000)(hv:q.vs.length<1000000)
 (h:∀r1 r3,T W (Sep.pt r3 [.i (items.length:Int)]::Sep.pt r1 [.p (some (ad l 0))]::F (p,items++[x]) {q with vs:=q.vs++[qU r1 r3]}) (K (.i (items.length:Int)))):
 T W L (dO (some ⟨l,0,none⟩) (aM x) K):=by
 refine zj (P:=oH aM 33 l) (Q:=eY p) fun R hc=>?_;refine oq fun b c=>?_;unfold dO
 repeat' first|apply ww|apply wm;intro _|apply wb
 refine jm (x:=x) (by simp) rfl rfl (by omega) (by omega) (j0 _) fun b' c'=>?_
 repeat' first|apply ww|apply wm;intro _|apply wb
 refine rv (p:=p) hv rfl rfl ?_
 repeat' first|apply ww|apply wm;intro _|apply wb
 rename_i r1 r2 r3 r4;refine T.sub (M:=[Sep.pt r3 _,Sep.pt r1 _]++Sep.pt l _::own b' _ c' 33 _::eY p _::R) ?_ (by repeat (first|exact adP.refl _|apply adP.cons_cons|apply adP.cons));exact ss (by simp) (hc [_,_] _ _ _ (h r1 r3))
def Vd[i:Lc (oH aM 33 l) L (p,items) f][j:Pd (oH aM 33 l) (eY p) L (p,items) q F]{n:Nat}(hx:items[n]?=some y)(hl:items.length<1000000)(hv:q.vs.length<1000000)
 (h:∀r4 r1 r2,T W (Sep.pt r4 (aM y)::Sep.pt r2 [.i (n:Int)]::Sep.pt r1 [.p (some (ad l 0))]::F (p,items.set n x) {q with vs:=q.vs++[wN r4 r1 r2]}) (K (.bool true))):
 T W L (fk (some ⟨l,0,none⟩) (n:Int) (aM x) K):=by
 have a8:=(adC.1 hx).1;refine zj (P:=oH aM 33 l) (Q:=eY p) fun R hc=>?_;refine oq fun b c=>?_;unfold fk
 repeat' first|apply ww|apply wm;intro _|apply wb|with_reducible refine OC hx hl ?_|fail
 refine bV ⟨by omega,by omega⟩ fun r hr=>?_;subst hr;rw[adB];refine c9 rfl (nF rI a8 (j0 _) ?_)
 repeat' first|apply ww|apply wm;intro _|apply wb
 refine rv (p:=p) hv rfl rfl ?_
 repeat' first|apply ww|apply wm;intro _|apply wb
 rename_i r1 r2 r3 r4;refine T.sub (M:=[Sep.pt r4 _,Sep.pt r2 _,Sep.pt r1 _]++Sep.pt l _::own (some ⟨r,0,none⟩) _ c 33 _::eY p _::R) ?_ (by repeat (first|exact adP.refl _|apply adP.cons_cons|apply adP.cons));exact ss (by simp) (hc [_,_,_] _ _ _ (h r4 r1 r2))
def Ve[i:Lc (oH aM 33 l) L (p,items) f](hl:items.length<1000000)(h:∀b c,T W (own b items.length c 33 (items.flatMap aM)::L) (K (.l b items.length c))):T W L (fo (some ⟨l,0,none⟩) K):=by
 have hL:f (p,items)=L:=i.same;refine Cm (g:=aM) (e:=33) (l:=l) fun b c R hc=>?_;unfold fo
 repeat' first|apply ww|apply wm;intro _|apply wb
 refine gB (e:=33) ?_;refine om (b:=none) (l0:=([]:List Kept)) (l1:=items) rI rfl (by omega) j0 fun b' c'=>?_;have:=hc [own b' items.length c' 33 (items.flatMap aM)] b items.length c items _ rfl (by rw[hL];exact h b' c');simpa using this
end
def rq(bx:List (Nat×LV)):HP:=yT (bx.map fun x=>Sep.pt x.1 x.2)
def St.MB{W w:World}{M R:LH}{A:HP}(h:St W w (yT M::R))(hm:A∈M):∃R',St W w (A::R')∧∀w',St W w' (A::R')→St W w' (yT M::R):=by
 obtain⟨k,hk⟩:=aeT hm;have p:=o8 hk;exact⟨M.eraseIdx k++R,(St.oM M R h).perm (p.append_right R),fun w' h'=>St.nH M R (h'.perm (p.symm.append_right R))⟩
section
variable {W:World} {L:LH} {K:VK} {X:WK} {r o n:Nat} {cs xs:LV} {v:Value} {bx:List (Nat×LV)} {f:List (Nat×LV)→LH}
def Bs(hm:(r,cs)∈bx)[i:Lc rq L bx f]{w:World}(hs:St W w L):∃R,St W w (Sep.pt r cs::R):=by
 obtain⟨k,hk,_⟩:=i.at_;obtain⟨R,h1,_⟩:=St.MB (M:=bx.map fun x=>Sep.pt x.1 x.2) (hs.focus hk) (aek.2 ⟨(r,cs),hm,rfl⟩);exact⟨R,h1⟩
def oG[i:Lc rq L bx f](hm:(r,cs)∈bx)(hv:cs[o]?=some v)(h:T W L (K v)):T W L (ld ⟨r,o,none⟩ K):=fun w hs=>by
 obtain⟨R,hr⟩:=Bs hm hs;exact bR hr (k:=0) rfl hv (h w hs)
def z'[i:Lc rq L bx f](hm:(r,cs)∈bx)(hv:cs[o]?=some v)(h:T W L X):T W L (kp ⟨r,o,none⟩ [v] X):=fun w hs=>by
 obtain⟨R,hr⟩:=Bs hm hs;exact iV hr (k:=0) rfl hv (h w hs)
def zY{K:LV→WK}[i:Lc rq L bx f](hm:(r,cs)∈bx)[s:Sub cs o n xs](h:T W L (K xs)):T W L (aj ⟨r,o,none⟩ n K):=fun w hs=>by
 obtain⟨R,hr⟩:=Bs hm hs;exact iG hr (k:=0) rfl s.is.1 s.is.2 (h w hs)
def cQ[i:Lc rq L bx f](h:T W (f ((r,cs)::bx)) X):T W (Sep.pt r cs::L) X:=by
 obtain⟨R,h1,h2⟩:=i.perm;refine T.perm (fun w hs=>?_) (h1.cons _);refine T.perm h (h2 _).symm w (St.nH (((r,cs)::bx).map fun x=>Sep.pt x.1 x.2) R ?_);exact(St.oM (bx.map fun x=>Sep.pt x.1 x.2) (Sep.pt r cs::R) (hs.perm (ad2.swap _ _ _))).perm aeM
end
structure C where
 ag:List aS
 kept:List Kept
 mD:(Nat→Option Int)×Nat
 fB:(Nat→Option Int)×Nat
 stamps:List ln
 ends:List Item
 clock:Int
 af:Int
abbrev vL(a:Nat):Value:=.func (.func N.cE) ⟨[]⟩ ⟨[.p (some (ad a 0))]⟩
abbrev RF(a a2:Nat):Value:=.func (.func N.cF) ⟨[]⟩ ⟨[.p (some (ad a 0)),.p (some (ad a2 0))]⟩
abbrev L9(a a2:Nat):Value:=.func (.func N.cH) ⟨[]⟩ ⟨[.p (some (ad a 0)),.p (some (ad a2 0))]⟩
abbrev zV(a a2 a3:Nat):Value:=.func (.func N.cJ) ⟨[]⟩ ⟨[.p (some (ad a 0)),.p (some (ad a2 0)),.p (some (ad a3 0))]⟩
abbrev G6(a a2:Nat):Value:=.func (.func N.cI) ⟨[]⟩ ⟨[.p (some (ad a 0)),.p (some (ad a2 0))]⟩
abbrev SS(a a2:Nat):Value:=.func (.func N.cW) ⟨[]⟩ ⟨[.p (some (ad a 0)),.p (some (ad a2 0))]⟩
inductive yP(p la lk:Nat)(bx:List (Nat×LV)):Value→C→C→Prop
 |next {c:C} {a:Nat} {s:Int} (h1:(a,[.pointer (some (ad p 0))])∈bx) (hs:adx.wrap (c.af-1)=s):yP p la lk bx (vL a) c {c with af:=s}
 |time {c:C} {a a2:Nat} {t:Int} (h1:(a,[.int .i64 t])∈bx) (h2:(a2,[.pointer (some (ad p 0))])∈bx):yP p la lk bx (RF a a2) c {c with clock:=t}
 |open_ {c:C} {a a2:Nat} {x:aS} {m:(Nat→Option Int)×Nat} (h1:(a,[.pointer (some (ad p 0))])∈bx) (h2:(a2,ak x)∈bx) (hu:c.mD.2≤1000) (hi:(c.mD.1 x.id).isSome=true) (hm:(rZ c.mD.1 x.id none,c.mD.2-1)=m):
  yP p la lk bx (L9 a a2) c {c with mD:=m}
 |Rl {c:C} {a a2 n:Nat} (h1:(a,[.pointer (some (ad la 0))])∈bx) (h2:(a2,[.int .i64 (n:Int)])∈bx) (hn:n≤c.ag.length):yP p la lk bx (wO a a2) c {c with ag:=c.ag.take n}
 |Rk {c:C} {a a2 n:Nat} (h1:(a,[.pointer (some (ad lk 0))])∈bx) (h2:(a2,[.int .i64 (n:Int)])∈bx) (hn:n≤c.kept.length):yP p la lk bx (qU a a2) c {c with kept:=c.kept.take n}
 |PA {c:C} {a1 a2 a3 n:Nat} {x:aS} (h1:(a1,ak x)∈bx) (h2:(a2,[.pointer (some (ad la 0))])∈bx) (h3:(a3,[.int .i64 (n:Int)])∈bx) (hn:n<c.ag.length):yP p la lk bx (zD a1 a2 a3) c {c with ag:=c.ag.set n x}
 |Pz {c:C} {a1 a2 a3 n:Nat} {x:Kept} (h1:(a1,aM x)∈bx) (h2:(a2,[.pointer (some (ad lk 0))])∈bx) (h3:(a3,[.int .i64 (n:Int)])∈bx) (hn:n<c.kept.length):yP p la lk bx (wN a1 a2 a3) c {c with kept:=c.kept.set n x}
 |Jj {c:C} {a a2 a3:Nat} {t:Move} {k:Kept} {l0:List ln} {at_:Int} {m:(Nat→Option Int)×Nat} (h1:(a,[.pointer (some (ad p 0))])∈bx) (h2:(a2,ai t)∈bx) (h3:(a3,aM k)∈bx)
  (hu:c.fB.2≤1000) (hi:(c.fB.1 t.id).isSome=true) (hr:oY c.stamps) (hl:c.stamps.length<100000) (hs:c.stamps=l0++[(k.move.af,at_)]) (hm:(rZ c.fB.1 t.id none,c.fB.2-1)=m):
  yP p la lk bx (zV a a2 a3) c {c with fB:=m,stamps:=l0}
 |Ji {c:C} {a a2:Nat} {x:Item} {e':List Item} (h1:(a,[.pointer (some (ad p 0))])∈bx) (h2:(a2,eB x)∈bx) (hl:c.ends.length<10000) (he:(x::e').Perm c.ends) (hn:∀y∈e',y.af≠x.af):
  yP p la lk bx (G6 a a2) c {c with ends:=e'}
 |end_ {c:C} {a a2:Nat} {x:Item} {e':List Item} (h1:(a,[.pointer (some (ad p 0))])∈bx) (h2:(a2,eB x)∈bx) (hl:c.ends.length<10000) (he:e'.Perm (c.ends++[x])):yP p la lk bx (SS a a2) c {c with ends:=e'}
def yP.mono{p la lk:Nat}{bx lF:List (Nat×LV)}{v:Value}{c c':C}(h:yP p la lk bx v c c')(hs:∀x∈bx,x∈lF):yP p la lk lF v c c':=by
 cases h with
 |next h1 h2=>exact .next (hs _ h1) h2
 |time h1 h2=>exact .time (hs _ h1) (hs _ h2)
 |open_ h1 h2 h3 h4 h5=>exact .open_ (hs _ h1) (hs _ h2) h3 h4 h5
 |Rl h1 h2 h3=>exact .Rl (hs _ h1) (hs _ h2) h3
 |Rk h1 h2 h3=>exact .Rk (hs _ h1) (hs _ h2) h3
 |PA h1 h2 h3 h4=>exact .PA (hs _ h1) (hs _ h2) (hs _ h3) h4
 |Pz h1 h2 h3 h4=>exact .Pz (hs _ h1) (hs _ h2) (hs _ h3) h4
 |Jj h1 h2 h3 h4 h5 h6 h7 h8 h9=>exact .Jj (hs _ h1) (hs _ h2) (hs _ h3) h4 h5 h6 h7 h8 h9
 |Ji h1 h2 h3 h4 h5=>exact .Ji (hs _ h1) (hs _ h2) h3 h4 h5
 |end_ h1 h2 h3 h4=>exact .end_ (hs _ h1) (hs _ h2) h3 h4
def iJ(p la lk:Nat)(bx:List (Nat×LV)):LV→List C→C→Prop
 |[],[],_=>True
 |v::vs,c'::hs,c=>yP p la lk bx v c c'∧iJ p la lk bx vs hs c'
 |_,_,_=>False
def iJ.mono{p la lk:Nat}{bx lF:List (Nat×LV)}(hs:∀x∈bx,x∈lF):∀{vs:LV} {h:List C} {c:C},iJ p la lk bx vs h c→iJ p la lk lF vs h c
 |[],[],_,_=>trivial
 |v::vs,c'::h,c,hc=>⟨hc.1.mono hs,iJ.mono hs hc.2⟩
def iJ.len{p la lk:Nat}{bx:List (Nat×LV)}:∀{vs:LV} {h:List C} {c:C},iJ p la lk bx vs h c→vs.length=h.length
 |[],[],_,_=>rfl
 |v::vs,c'::h,c,hc=>by simp[iJ.len hc.2]
abbrev dW(la lk ti tn:Nat)(vs:LV)(c:C):Core:=⟨la,lk,ti,tn,vs.reverse,c.stamps,c.ends,c.clock,c.af⟩
def Fb(p la lk ti tn:Nat)(vs:LV)(bx:List (Nat×LV))(c:C)(R:LH):LH:=
 eY p (dW la lk ti tn vs c)::oH ak 14 la (p,c.ag)::oH aM 33 lk (p,c.kept)::me ti c.mD::me tn c.fB::rq bx::R
section
variable {W:World} {R:LH} {K:VK} {X:WK} {p la lk ti tn:Nat} {vs:LV} {bx:List (Nat×LV)} {c c':C} {v:Value}
def YC:Ek:=[(N.cW,cW.u),(N.cJ,cJ.u),(N.cI,cI.u),(N.cH,cH.u),(N.cF,cF.u),(N.cE,cE.u),(N.aZ,aZ.u),(N.aY,aY.u),(N.bB,bB.u),(N.bA,bA.u)]
def T.Dc{q:Core}{e e':List Item}(he:e.Perm e')(h:T W (eY p {q with ends:=e'}::R) X):T W (eY p {q with ends:=e}::R) X:=
 Dd fun b1 c1 b2 c2 b3 c3 hp h1 h2=>vp (q:={q with ends:=e'}) h1 (h2.trans he) h
def T.Hj{A B:HP}(h:T W (B::A::R) X):T W (A::B::R) X:=T.perm h (ad2.swap _ _ _)
def T.RU{A B:HP}(h:T W (A::B::R) X):T W (B::A::R) X:=T.perm h (ad2.swap _ _ _)
def T.Tn{A B D:HP}(h:T W (D::A::B::R) X):T W (A::B::D::R) X:=T.RW (R:=R) h
def T.RT{A B D:HP}(h:T W (A::B::D::R) X):T W (D::A::B::R) X:=T.RV (R:=R) h
def Ch{x y:Item}{e' e2 e:List Item}(h1:(x::e').Perm e)(h2:(y::e2).Perm e)(hy:y.af=x.af)(hn:∀z∈e',z.af≠x.af):e2.Perm e':=by
 have:y∈x::e':=h1.mem_iff.2 (h2.mem_iff.1 (by simp));rcases aeS.1 this with rfl|hm
 ·exact(List.perm_cons y).1 (h2.trans h1.symm)
 ·exact absurd hy (hn y hm)
def Wh(hc:yP p la lk bx v c c')(h:T W (Fb p la lk ti tn vs bx c' R) (K (.tuple ⟨[]⟩))):T W (Fb p la lk ti tn vs bx c R) (s9 YC v [] K):=by
 unfold Fb at *;cases hc with
 |next h1 hs=>
  rename_i a s;show T W _ (cE (ad a 0) K);unfold cE
  repeat' first|apply ww|apply wm;intro _|apply wb|with_reducible first|refine oG h1 rfl ?_|refine G8 ?_|fail
  rw[show adx.wrap ((dW la lk ti tn vs c).af-1)=s from hs];exact h
 |time h1 h2=>
  rename_i a a2 t;show T W _ (cF (ad a 0) (ad a2 0) K);unfold cF
  repeat' first|apply ww|apply wm;intro _|apply wb|with_reducible first|refine oG h2 rfl ?_|refine oG h1 rfl ?_|refine G9 ?_|fail
  exact h
 |open_ h1 h2 h3 h4 h5=>
  rename_i a a2 x m;show T W _ (cH (ad a 0) (ad a2 0) K);unfold cH
  repeat' first|apply ww|apply wm;intro _|apply wb|with_reducible first|refine oG h1 rfl ?_|refine z' h1 rfl ?_|fail
  refine zY h2 ?_;refine OH h3 (fun _=>?_) (fun hn=>by rw[hn] at h4;cases h4)
  repeat' first|apply ww|apply wm;intro _|apply wb|with_reducible refine z' h1 rfl ?_|fail
  rw[h5];exact h
 |Rl h1 h2 h3=>
  rename_i a a2 n;show T W _ (aZ (ad a 0) (ad a2 0) K);refine T.Hj ?_;refine oq fun b cc=>?_;unfold aZ
  repeat' first|apply ww|apply wm;intro _|apply wb|with_reducible first|refine oG h1 rfl ?_|refine oG h2 rfl ?_|fail
  refine ny (b:=b) fun qM _=>?_;refine u3 (by omega) ?_;refine vN (b:=b) (i:=n) gL (by omega) ?_
  repeat' first|apply ww|apply wm;intro _|apply wb
  exact pX (g:=ak) (e:=14) (by rw[adF];omega) (T.RU h)
 |Rk h1 h2 h3=>
  rename_i a a2 n;show T W _ (bB (ad a 0) (ad a2 0) K);refine T.Tn ?_;refine oq fun b cc=>?_;unfold bB
  repeat' first|apply ww|apply wm;intro _|apply wb|with_reducible first|refine oG h1 rfl ?_|refine oG h2 rfl ?_|fail
  refine ny (b:=b) fun qM _=>?_;refine u3 (by omega) ?_;refine vN (b:=b) (i:=n) rI (by omega) ?_
  repeat' first|apply ww|apply wm;intro _|apply wb
  exact pX (g:=aM) (e:=33) (by rw[adF];omega) (T.RT h)
 |PA h1 h2 h3 h4=>
  rename_i a1 a2 a3 n x;show T W _ (aY (ad a1 0) (ad a2 0) (ad a3 0) K);refine T.Hj ?_;refine oq fun b cc=>?_;unfold aY
  repeat' first|apply ww|apply wm;intro _|apply wb|with_reducible first|refine oG h2 rfl ?_|refine oG h3 rfl ?_|fail
  refine zY h1 ?_;refine bV ⟨by omega,by omega⟩ fun r hr=>?_;subst hr;rw[adB];refine c9 rfl (nF gL h4 (gn _) ?_)
  repeat' first|apply ww|apply wm;intro _|apply wb
  exact pX (g:=ak) (e:=14) (by simp) (T.RU h)
 |Pz h1 h2 h3 h4=>
  rename_i a1 a2 a3 n x;show T W _ (bA (ad a1 0) (ad a2 0) (ad a3 0) K);refine T.Tn ?_;refine oq fun b cc=>?_;unfold bA
  repeat' first|apply ww|apply wm;intro _|apply wb|with_reducible first|refine oG h2 rfl ?_|refine oG h3 rfl ?_|fail
  refine zY h1 ?_;refine bV ⟨by omega,by omega⟩ fun r hr=>?_;subst hr;rw[adB];refine c9 rfl (nF rI h4 (j0 _) ?_)
  repeat' first|apply ww|apply wm;intro _|apply wb
  exact pX (g:=aM) (e:=33) (by simp) (T.RT h)
 |Jj h1 h2 h3 h4 h5 h6 h7 h8 h9=>
  rename_i a a2 a3 t k l0 at_ m;show T W _ (cJ (ad a 0) (ad a2 0) (ad a3 0) K);unfold cJ
  repeat' first|apply ww|apply wm;intro _|apply wb|with_reducible first|refine oG h1 rfl ?_|refine z' h1 rfl ?_|fail
  refine zY h2 ?_;refine OH h4 (fun _=>?_) (fun hn=>by rw[hn] at h5;cases h5)
  repeat' first|apply ww|apply wm;intro _|apply wb|with_reducible first|refine oG h1 rfl ?_|refine z' h1 rfl ?_|refine oG h3 rfl ?_|fail
  simp only[ft,adE];refine NX (p:=p) (q:=dW la lk ti tn vs c) h6 (by show c.stamps.length<_;omega) h8 ?_
  repeat' first|apply ww|apply wm;intro _|apply wb|with_reducible refine z' h1 rfl ?_|fail
  rw[h9];exact h
 |Ji h1 h2 h3 h4 h5=>
  rename_i a a2 x e';show T W _ (cI (ad a 0) (ad a2 0) K);unfold cI
  repeat' first|apply ww|apply wm;intro _|apply wb|with_reducible first|refine oG h1 rfl ?_|refine oG h2 rfl ?_|fail
  simp only[ft,adE];refine Gi (p:=p) (q:=dW la lk ti tn vs c) h3 (fun y e2 hy hp=>?_) (fun DU=>absurd rfl (DU x (h4.mem_iff.1 (by simp))))
  repeat' first|apply ww|apply wm;intro _|apply wb|with_reducible refine z' h1 rfl ?_|fail
  exact T.Dc (Ch h4 hp hy h5) h
 |end_ h1 h2 h3 h4=>
  rename_i a a2 x e';show T W _ (cW (ad a 0) (ad a2 0) K);unfold cW
  repeat' first|apply ww|apply wm;intro _|apply wb|with_reducible refine oG h1 rfl ?_|fail
  refine zY h2 ?_;simp only[ft,adE];refine Ee (p:=p) (q:=dW la lk ti tn vs c) h3 h4 ?_
  repeat' first|apply ww|apply wm;intro _|apply wb|with_reducible refine z' h1 rfl ?_|fail
  exact h
end
structure acT where
 la:Nat
 lk:Nat
 ti:Nat
 tn:Nat
def cP(p:Nat)(x:C×List C):HP:=
 Sq fun z:acT×LV×List (Nat×LV)=>Lm (iJ p z.1.la z.1.lk z.2.2 z.2.1 x.2 x.1) (yT (Fb p z.1.la z.1.lk z.1.ti z.1.tn z.2.1 z.2.2 x.1 []))
section
variable {W:World} {L R:LH} {K:VK} {X:WK} {p:Nat} {c:C} {hs:List C} {f:C×List C→LH}
def N1(h:∀la lk ti tn vs bx,iJ p la lk bx vs hs c→T W (eY p (dW la lk ti tn vs c)::oH ak 14 la (p,c.ag)::oH aM 33 lk (p,c.kept)::me ti c.mD::me tn c.fB::rq bx::R) X):T W (cP p (c,hs)::R) X:=fun w hw=>by
 obtain⟨⟨⟨la,lk,ti,tn⟩,vs,bx⟩,hw⟩:=hw.ex;obtain⟨hc,hw⟩:=hw.and;exact h la lk ti tn vs bx hc w (St.oM _ _ hw)
def zF{la lk ti tn:Nat}{vs:LV}{bx:List (Nat×LV)}(hc:iJ p la lk bx vs hs c)(h:T W (cP p (c,hs)::R) X):
 T W (eY p (dW la lk ti tn vs c)::oH ak 14 la (p,c.ag)::oH aM 33 lk (p,c.kept)::me ti c.mD::me tn c.fB::rq bx::R) X:=fun w hw=>
 h w (St.ow (⟨la,lk,ti,tn⟩,vs,bx) (St.and_intro hc (St.nH _ _ hw)))
def t_c[i:Lc (cP p) L (c,hs) f](h:∀la lk ti tn vs bx R,iJ p la lk bx vs hs c→
 (∀M c' dh BK lF Y,iJ p la lk lF BK dh c'→T W (M++f (c',dh)) Y→T W (M++eY p (dW la lk ti tn BK c')::oH ak 14 la (p,c'.ag)::oH aM 33 lk (p,c'.kept)::me ti c'.mD::me tn c'.fB::rq lF::R) Y)→
 T W (eY p (dW la lk ti tn vs c)::oH ak 14 la (p,c.ag)::oH aM 33 lk (p,c.kept)::me ti c.mD::me tn c.fB::rq bx::R) X):T W L X:=
 zi (P:=cP p) fun R mF=>N1 fun la lk ti tn vs bx hc=>h la lk ti tn vs bx R hc fun M c' dh BK lF Y F1 hy=>
  T.perm (zF (R:=M++R) F1 (T.perm (mF M (c',dh) Y hy) aeM.symm)) (by
   have:=adJ (l₁:=M) (l₂:=[eY p (dW la lk ti tn BK c'),oH ak 14 la (p,c'.ag),oH aM 33 lk (p,c'.kept),me ti c'.mD,me tn c'.fB,rq lF])|>.append_right R
   simpa using this)
def xd{b:OA}{n c e i:Nat}{xs:LV}{f:HP→LH}[j:pa b n c L e xs f](hi:i≤n)(h:T W (f (own b i c e (xs.take (i* e)))) X):T W L X:=fun w hs=>by
 obtain⟨k,hk,e1⟩:=j.at_;refine h w ?_;rw[e1];exact St.og ((hs.focus hk).mono (AA hi)) hk
def Mi{r n c e o:Nat}{xs:LV}{v:Value}{f:HP→LH}[j:pa (some ⟨r,0,none⟩) n c L e xs f](hv:xs[o]?=some v)(h:T W L (K v)):T W L (ld ⟨r,o,none⟩ K):=fun w hs=>by
 obtain⟨k,hk,_⟩:=j.at_;exact xx hs hk hv (h w hs)
def Mm{b:OA}{n c e:Nat}{xs ys:LV}{f:HP→LH}[j:pa b n c L e xs f](hl:ys.length=xs.length)(h1:∀v∈ys,v.oneCell'=true)(h:∀zs,T W (f (own b n c e zs)) X):T W L (Q5 ys b n X):=fun w hs=>by
 obtain⟨k,hk,e1⟩:=j.at_;refine⟨fun _=>h xs w (by rw[e1,kE hk];exact hs),fun a ha _=>?_⟩;obtain⟨hlx,h0|⟨r,sp,hb,qM,yt,gN⟩⟩:=hs.mz hk
 ·rw[h0.1] at ha;cases ha
 ·rw[hb] at ha;cases ha
  obtain⟨hc,qL⟩:=St.u5 ys 0 0 gN (iF hk) (by simp;omega) h1;refine⟨hc,h ys _ ?_⟩;rw[aeO,aev] at qL;have e2:over (xs++sp) 0 ys=ys++sp:=by
   unfold over;rw[ae0,aed,adE,hl,List.drop_left' rfl]
  rw[e2] at qL;rw[e1,hb];exact St.xn ((adC.1 hk).1) (by rw[hl];exact hlx) qM yt qL
def qu(n:Nat):C→List C→C×List C
 |c,[]=>(c,[])
 |c,c'::hs=>if n≤hs.length then qu n c' hs else(c,c'::hs)
def yK{n:Nat}(hn:hs.length≤n):qu n c hs=(c,hs):=by
 cases hs with
 |nil=>rfl
 |cons c' hs=>unfold qu;rw[if_neg (by simp at hn;omega)]
def La{q:Core}{w:World}(h:St W w (eY p q::R)):∃b c,w.cell? ⟨p,0,none⟩=some (.l b q.vs.length c):=by
 obtain⟨⟨⟨b1,c1⟩,⟨b2,c2⟩,⟨b3,c3⟩,hp⟩,hs⟩:=h.ex;obtain⟨_,hs⟩:=hs.and;have:=(St.oM _ _ hs).cell (k:=0) (o:=0) rfl;exact⟨b1,c1,this.1⟩
def Vw(p:Nat)(w:World):Nat:=match w.cell? ⟨p,0,none⟩ with|some (.slice _ m _)=>m|_=>0
def M6{q:Core}{w:World}(h:St W w (eY p q::R)):Vw p w=q.vs.length:=by
 obtain⟨b,cc,e⟩:=La h;unfold Vw;rw[e]
def Vi[i:Lc (cP p) L (c,hs) f]{n:Nat}(hl:hs.length<1000000)(h:T W (f (qu n c hs)) (K (.tuple ⟨[]⟩))):T W L (kS (some ⟨p,0,none⟩) (n:Int) K):=by
 refine t_c (p:=p) fun la lk ti tn vs bx R hc mF=>?_;unfold kS;refine tz ?_;intro w hw;refine⟨fun a w=>∃vs dh c',a=[]∧dh.length<1000000∧iJ p la lk bx vs dh c'∧qu n c' dh=qu n c hs∧St W w (Fb p la lk ti tn vs bx c' R),
  fun _ w=>Vw p w,⟨vs,hs,c,rfl,hl,hc,rfl,hw⟩,?_⟩
 rintro w2 ⟨BK,dh,c',-,GX,F1,hb,hw⟩;have hmu:Vw p w2=BK.length:=by
  have:=M6 (q:=dW la lk ti tn BK c') hw;rw[this];simp
 refine T.at ?_ hw;have hlen:=F1.len;have Qu:max2 (n:Int) 0=n:=by unfold max2;split<;>omega
 rw[Qu];unfold Fb;refine ng (p:=p) fun b1 c1 b2 c2 b3 c3 hp R2 g1 g2 Nt=>?_;unfold gX;have hrl:(dW la lk ti tn BK c').vs.length=BK.length:=aew
 repeat' first|apply ww|apply wm;intro _|apply wb
 refine az (fun g=>?_) (fun g=>?_)
 ·have Ju:n<BK.length:=by have:=of_decide_eq_true g;omega
  match BK,dh,F1,hlen,GX,Ju with
  |v::tq,Yz::gN,F1,hlen,GX,Ju=>
  simp only[adW] at Ju GX hlen;have hrl:(dW la lk ti tn (v::tq) c').vs.length=tq.length+1:=by show(v::tq).reverse.length=_;simp
  have e1:adx.wrap (((dW la lk ti tn (v::tq) c').vs.length:Int) -1)=(tq.length:Int):=by rw[ah (by omega)];omega
  repeat' first|apply ww|apply wm;intro _|apply wb
  rw[e1];refine bV ⟨by omega,by omega⟩ fun r hr=>?_;subst hr;rw[adB,ae8];refine Mi (v:=v) (by simp) ?_;refine Nt [] (dW la lk ti tn (v::tq) c') _ _ _ _ _ _ _ _ g1 g2 ?_;refine Wh (c':=Yz) (vs:=v::tq) F1.1 ?_;unfold Fb;refine ng (p:=p) fun b1 c1 b2 c2 b3 c3 hp R2 g1 g2 aaD=>?_;unfold gX
  repeat' first|apply ww|apply wm;intro _|apply wb
  refine ny (b:=b1) fun qM _=>?_;have qM:(dW la lk ti tn (v::tq) c').vs.length≤c1:=qM;refine u3 (by omega) ?_;refine xd (b:=b1) (i:=tq.length) (show tq.length≤(dW la lk ti tn (v::tq) c').vs.length by omega) ?_
  repeat' first|apply ww|apply wm;intro _|apply wb
  have et:List.take (tq.length* 1) (v::tq).reverse=tq.reverse:=by rw[ae8,ae6,←aew,List.take_left]
  rw[et];have:=aaD [] (dW la lk ti tn tq Yz) b1 c1 b2 c2 b3 c3 hp (fun w3=>(∃vs dh c',([]:LV)=[]∧dh.length<1000000∧iJ p la lk bx vs dh c'∧qu n c' dh=qu n c hs∧St W w3 (Fb p la lk ti tn vs bx c' R))∧Vw p w3<Vw p w2) g1 g2 ?_
  ·unfold gX at this;rw[show(dW la lk ti tn tq Yz).vs.length=tq.length from aew] at this;exact this
  ·intro w3 h3;refine⟨⟨tq,gN,Yz,rfl,by omega,F1.2,?_,h3⟩,?_⟩
   ·rw[←hb]
    conv=>rhs;unfold qu
    rw[if_pos (by omega)]
   ·have:=M6 (q:=dW la lk ti tn tq Yz) h3;rw[this,hmu];simp
 ·have hle:BK.length≤n:=by have:=of_decide_eq_false g;omega
  rw[yK (by omega)] at hb;rw[←hb] at h;refine Nt [] (dW la lk ti tn BK c') _ _ _ _ _ _ _ _ g1 g2 ?_;exact mF [] c' dh BK bx _ F1 h
def Rx[i:Lc (cP p) L (c,hs) f](hl:hs.length<1000000)(h:T W (f (c,[])) (K (.tuple ⟨[]⟩))):T W L (gZ (some ⟨p,0,none⟩) K):=by
 refine t_c (p:=p) fun la lk ti tn vs bx R hc mF=>?_;have hlen:=hc.len;refine ng (p:=p) fun b1 c1 b2 c2 b3 c3 hp R2 g1 g2 Nt=>?_;unfold gZ gX
 repeat' first|apply ww|apply wm;intro _|apply wb
 refine ny (b:=b1) fun qM CV=>?_;refine Mm (b:=b1) (by rw[lu,CV];simp) (fun v hv=>?_) fun zs=>?_
 ·simp only[Builtin.zeroCells,Array.toList_map,aek] at hv;obtain⟨j,_,rfl⟩:=hv;have:(⟨[Value.nilFunc]⟩:Array Value)[j%(⟨[Value.nilFunc]⟩:Array Value).size]! =.nilFunc:=by
   have:j%(⟨[Value.nilFunc]⟩:Array Value).size=0:=Nat.mod_one j;rw[this];rfl
  rw[this];rfl
 repeat' first|apply ww|apply wm;intro _|apply wb
 refine u3 (i:=0) (by omega) ?_;refine xd (b:=b1) (i:=0) (by omega) ?_
 repeat' first|apply ww|apply wm;intro _|apply wb
 rw[Nat.zero_mul,ae0];refine Nt [] (dW la lk ti tn [] c) b1 c1 b2 c2 b3 c3 hp _ g1 g2 ?_;exact mF [] c [] [] bx _ trivial h
end
end Go.Up
namespace Go.Md
structure Ground(m:Model):Prop where
 zero:∀a∈m.made,a.dp=0∧a.dq=0∧a.cp=0∧a.cq=0∧0≤a.flags∧a.flags<8
 ids:(m.made.map (·.id)).Nodup
 mC:m.made.length≤32
 names:(m.kept.map (·.move.id)).Nodup
 s7:∀k∈m.kept,0≤k.fate∧k.fate≤4∧(has k.move.flags 2↔1≤k.fate)
 tB:∀k∈m.kept,k.move.aH≠k.move.ar∧k.move.aH∈m.made.map (·.id)∧k.move.ar∈m.made.map (·.id)
 some_:m.kept.length≤96
 vo:∀a∈m.made,S (vF a.id) m.kept+S (xG a.id) m.kept<aO
 sO:∀a∈m.made,S (vG a.id) m.kept+S (xH a.id) m.kept<aO
 qS:∀a∈m.made,S (qn a.id) m.kept≤1
structure mI(b:ax)(m:Model):Prop where
 ag:b.ag=m.made.map (full m.kept)
 kept:b.kept=m.kept
 clock:b.clock=m.clock
 af:b.af=m.af
def Ground.full{m:Model}(h:Ground m){a:aS}(ha:a∈m.made):m.full a=Md.full m.kept a:=by
 obtain⟨h1,h2,h3,h4,_⟩:=h.zero a ha;have d:=h.vo a ha;have c:=h.sO a ha;exact HQ a m.kept (by omega) (by omega) (by omega) (by omega)
def wH{l:List aS}{id:Nat}{a:aS}(h:l.find? (fun a=>a.id=id)=some a):a∈l∧a.id=id:=
 ⟨aey h,by simpa using List.find?_some h⟩
def mI.find{b:ax}{m:Model}(h:mI b m)(id:Nat):b.find id=(m.find id).map (Md.full m.kept):=by
 unfold ax.find Model.find;rw[h.ag,List.find?_map]
 rfl
def C4(l:List Kept)(k:Kept)(a:aS):full (l++[k]) a=full [k] (full l a):=(yC a l [k]).symm
def wE(k:Kept)(a:aS):full [k] a={a with dp:=a.dp+vF a.id k,dq:=a.dq+xG a.id k,cp:=a.cp+vG a.id k,cq:=a.cq+xH a.id k,flags:=if iW a.id k then a.flags%8+8 else a.flags}:=by
 unfold full;simp only[oy,ua,aev]
 congr 1
 unfold qn;by_cases h:iW a.id k
 ·rw[if_pos h,if_pos h,if_neg (by omega)]
 ·rw[if_neg h,if_neg h,if_pos rfl]
def oW(t b:Move):qw t b≠0:=by unfold qw;split<;>decide
def tK{t:Move}{named:Option Kept}{d c:Option aS}{many:Nat}(h:(jb t named d c many).1=0):
 ∃d' c',d=some d'∧c=some c'∧named=none∧lE t=0∧¬iR t.flags∧d'.aJ=c'.aJ∧d'.flags<8∧c'.flags<8∧many<96∧
  d'.dp+d'.dq+(jb t named d c many).2<aO∧c'.cp+c'.cq+(jb t named d c many).2<aO∧
  ¬(has d'.flags 2∧iI d' true<(jb t named d c many).2)∧¬(has c'.flags 4∧iI c' false<(jb t named d c many).2):=by
 unfold jb at h⊢;by_cases h1:lE t≠0
 ·rw[if_pos h1] at h;exact absurd h h1
 rw[if_neg h1] at h⊢;by_cases h2:iR t.flags
 ·rw[if_pos h2] at h;exact absurd h (by decide)
 rw[if_neg h2] at h⊢;cases named with
 |some k=>exact absurd h (oW t k.asked)
 |none=>
  cases d with
  |none=>exact absurd h (show ¬(19:Int)=0 by decide)
  |some d=>
   cases c with
   |none=>exact absurd h (show ¬(20:Int)=0 by decide)
   |some c=>
    dsimp only at h⊢;by_cases h3:d.aJ≠c.aJ
    ·rw[if_pos h3] at h;exact absurd h (by decide)
    rw[if_neg h3] at h⊢;by_cases h4:d.aJ≠t.aJ
    ·rw[if_pos h4] at h;exact absurd h (by decide)
    rw[if_neg h4] at h⊢;by_cases h5:8≤d.flags
    ·rw[if_pos h5] at h;exact absurd h (by decide)
    rw[if_neg h5] at h⊢;by_cases h6:8≤c.flags
    ·rw[if_pos h6] at h;exact absurd h (by decide)
    rw[if_neg h6] at h⊢;by_cases h7:96≤many
    ·rw[if_pos h7] at h;exact absurd h (by decide)
    rw[if_neg h7] at h⊢;by_cases h8:(bQ t d c).2≠0
    ·rw[if_pos h8] at h;exact absurd h h8
    rw[if_neg h8] at h⊢;by_cases h9:(more d true (bQ t d c).1 (decide (has t.flags 2))).2≠0
    ·rw[if_pos h9] at h;exact absurd h h9
    rw[if_neg h9] at h⊢;by_cases Ut:(more c false (bQ t d c).1 (decide (has t.flags 2))).2≠0
    ·rw[if_pos Ut] at h;exact absurd h Ut
    rw[if_neg Ut];dsimp only;refine⟨d,c,rfl,rfl,rfl,adO.1 h1,h2,adO.1 h3,by omega,by omega,by omega,?_,?_,?_,?_⟩
    ·by_cases hh:aO≤d.dp+d.dq+(bQ t d c).1
     ·exfalso;apply h9;unfold more;rw[if_pos rfl,if_pos hh];exact(show(32:Int)≠0 by decide)
     ·omega
    ·by_cases hh:aO≤c.cp+c.cq+(bQ t d c).1
     ·exfalso;apply Ut;unfold more;rw[if_neg ad4,if_pos hh];exact(show(32:Int)≠0 by decide)
     ·omega
    ·intro hh;apply h9;unfold more;rw[if_pos rfl];by_cases h0:aO≤d.dp+d.dq+(bQ t d c).1
     ·rw[if_pos h0];exact(show(32:Int)≠0 by decide)
     ·rw[if_neg h0,if_pos hh];exact(show(33:Int)≠0 by decide)
    ·intro hh;apply Ut;unfold more;rw[if_neg ad4];by_cases h0:aO≤c.cp+c.cq+(bQ t d c).1
     ·rw[if_pos h0];exact(show(32:Int)≠0 by decide)
     ·rw[if_neg h0,if_pos hh];exact(show(34:Int)≠0 by decide)
def nJ{l:List aS}(hn:(l.map (·.id)).Nodup){a:aS}(ha:a∈l):l.find? (fun x=>x.id=a.id)=some a:=by
 induction l with
 |nil=>simp at ha
 |cons x l ih=>
  simp only[aeb,List.nodup_cons] at hn;rcases aeS.1 ha with rfl|ha
  ·simp
  ·rw[List.find?_cons];by_cases hx:x.id=a.id
   ·exact absurd (aek.2 ⟨a,ha,hx.symm⟩) hn.1
   ·simp only[hx,decide_false];exact ih hn.2 ha
def HN{a:aS}{k:Kept}(h1:k.move.aH≠a.id)(h2:k.move.ar≠a.id):full [k] a=a:=by
 rw[wE];unfold vF xG vG xH iW;simp[h1,h2]
def zt(a:aS)(b:Bool)(n:Nat)(p:Bool):(more a b n p).1.id=a.id∧(more a b n p).1.af=a.af:=by
 unfold more;split<;>split<;>(try exact⟨rfl,rfl⟩)<;>split<;>(try exact⟨rfl,rfl⟩)<;>split<;>exact⟨rfl,rfl⟩
def wM(a:aS)(yes:Prop)[Decidable yes]:(close a yes).id=a.id∧(close a yes).af=a.af:=by unfold close;split<;>exact⟨rfl,rfl⟩
def Hw{d c x:aS}{t:Move}{n:Nat}{st ck:Int}(Uh:t.aH≠t.ar)(hd:d.id=t.aH)(hc:c.id=t.ar)(nV: ¬iR t.flags)(OS:d.dp+d.dq+n<aO)(hsc:c.cp+c.cq+n<aO)(Z2:x.id=t.aH→x=d)(Z3:x.id=t.ar→x=c)
 (FO: ¬(has d.flags 2∧iI d true<n))(qM: ¬(has c.flags 4∧iI c false<n))(q1:has t.flags 64→has t.flags 2)(q2:has t.flags 128→has t.flags 2):
 (fun y:aS=>if y.id=(close (more c false n (decide (has t.flags 2))).1 (has t.flags 128)).id then{close (more c false n (decide (has t.flags 2))).1 (has t.flags 128) with af:=y.af} else y)
  ((fun y:aS=>if y.id=(close (more d true n (decide (has t.flags 2))).1 (has t.flags 64)).id then{close (more d true n (decide (has t.flags 2))).1 (has t.flags 64) with af:=y.af} else y) x)
 =full [⟨t,{t with aC:=n,af:=st,born:=ck},waits t⟩] x:=by
 have i1:(close (more d true n (decide (has t.flags 2))).1 (has t.flags 64)).id=t.aH:=by rw[(wM _ _).1,(zt _ _ _ _).1,hd]
 have i2:(close (more c false n (decide (has t.flags 2))).1 (has t.flags 128)).id=t.ar:=by rw[(wM _ _).1,(zt _ _ _ _).1,hc]
 have s1:(close (more d true n (decide (has t.flags 2))).1 (has t.flags 64)).af=d.af:=by rw[(wM _ _).2,(zt _ _ _ _).2]
 have s2:(close (more c false n (decide (has t.flags 2))).1 (has t.flags 128)).af=c.af:=by rw[(wM _ _).2,(zt _ _ _ _).2]
 have e4: ¬has t.flags 4:=fun h=>nV (.inl h);have e8: ¬has t.flags 8:=fun h=>nV (.inr h);dsimp only;rw[i1,i2];by_cases h1:x.id=t.aH
 ·have hx:=Z2 h1;subst hx;rw[if_pos h1];rw[if_neg (show ¬t.aH=t.ar from Uh),wE];unfold vF xG vG xH iW jx waits close more;have ji: ¬t.ar=x.id:=fun h=>Uh (by rw[h,h1]);simp only[if_true,if_neg (show ¬aO≤x.dp+x.dq+n by omega),if_neg FO];by_cases hw:has t.flags 2<;>by_cases mF:has t.flags 64<;>(try exact absurd (q1 mF) hw)<;>simp[hw,mF,e8,h1.symm,ji]
 ·rw[if_neg h1];by_cases h2:x.id=t.ar
  ·have hx:=Z3 h2;subst hx;rw[if_pos h2,wE];unfold vF xG vG xH iW jx waits close more;have ji: ¬t.aH=x.id:=fun h=>h1 h.symm;simp only[ad0,if_false,if_neg (show ¬aO≤x.cp+x.cq+n by omega),if_neg qM];by_cases hw:has t.flags 2<;>by_cases mF:has t.flags 128<;>(try exact absurd (q2 mF) hw)<;>simp[hw,mF,e8,h2.symm,ji]
  ·rw[if_neg h2,HN (fun h=>h1 h.symm) (fun h=>h2 h.symm)]
def Le{t:Move}(h:lE t=0)(he: ¬iR t.flags):t.aH≠t.ar∧0≤t.flags∧t.flags≤255∧(has t.flags 64→has t.flags 2)∧(has t.flags 128→has t.flags 2):=by
 unfold lE at h;by_cases h1:t.flags<0∨255<t.flags
 ·rw[if_pos h1] at h;exact absurd h (by decide)
 rw[if_neg h1] at h;have ht:gW t.flags:=by
  by_cases h2:t.id=0
  ·rw[if_pos h2] at h;exact absurd h (by decide)
  rw[if_neg h2] at h;by_cases h3:t.id=aO-1
  ·rw[if_pos h3] at h;exact absurd h (by decide)
  rw[if_neg h3] at h;by_cases h4: ¬gW t.flags
  ·rw[if_pos h4] at h;exact absurd h (by decide)
  exact adO.1 h4
 have QH:∀b:Int,(b=64∨b=128)→has t.flags b→has t.flags 2:=fun b hb hh=>by
  rcases ht.2.2 with h0|h0
  ·unfold has at hh;rcases hb with rfl|rfl<;>omega
  ·exact h0
 refine⟨fun Uh=>?_,by omega,by omega,QH 64 (.inl rfl),QH 128 (.inr rfl)⟩;by_cases h2:t.id=0
 ·rw[if_pos h2] at h;exact absurd h (by decide)
 rw[if_neg h2] at h;by_cases h3:t.id=aO-1
 ·rw[if_pos h3] at h;exact absurd h (by decide)
 rw[if_neg h3] at h;by_cases h4: ¬gW t.flags
 ·rw[if_pos h4] at h;exact absurd h (by decide)
 rw[if_neg h4] at h;by_cases h5:t.af≠0∨t.born≠0
 ·rw[if_pos h5] at h;exact absurd h (by decide)
 rw[if_neg h5] at h;by_cases h6:t.timeout<0∨1073741824<t.timeout∨0<t.timeout∧¬has t.flags 2
 ·rw[if_pos h6] at h;exact absurd h (by decide)
 rw[if_neg h6,if_neg he] at h;by_cases h7:t.aH=0
 ·rw[if_pos h7] at h;exact absurd h (by decide)
 rw[if_neg h7] at h;by_cases h8:t.ar=0
 ·rw[if_pos h8] at h;exact absurd h (by decide)
 rw[if_neg h8,if_pos Uh] at h;exact absurd h (by decide)
def A8{l:List Kept}{a:aS}(h0:0≤a.flags)(h:(full l a).flags<8):S (qn a.id) l=0:=by
 by_cases hs:S (qn a.id) l=0
 ·exact hs
 ·exfalso;have e:(full l a).flags=a.flags%8+8:=if_neg hs;rw[e] at h;omega
def mI.DM{b:ax}{m:Model}(h:mI b m)(id:Nat):b.named id=m.named id:=by unfold ax.named Model.named;rw[h.kept]
def Ground.NA{m:Model}(h:Ground m)(id:Nat):(m.find id).map m.full=(m.find id).map (Md.full m.kept):=by
 cases hf:m.find id with
 |none=>rfl
 |some a=>rw[ael,ael,h.full (wH hf).1]
def Ground.one{m:Model}(h:Ground m){id:Nat}{d:aS}(hf:(m.find id).map (Md.full m.kept)=some d){a:aS}(ha:a∈m.made)(G0:a.id=id):Md.full m.kept a=d:=by
 have:=nJ h.ids ha;rw[G0] at this;unfold Model.find at hf;rw[this] at hf;simpa using hf
def mI.move{b:ax}{m:Model}{t:Move}(hs:mI b m)(hg:Ground m):(b.move t).1=(m.move t).1∧mI (b.move t).2 (m.move t).2∧Ground (m.move t).2:=by
 have e:jb t (b.named t.id) (b.find t.aH) (b.find t.ar) b.kept.length=jb t (m.named t.id) ((m.find t.aH).map m.full) ((m.find t.ar).map m.full) m.kept.length:=by
  rw[hs.DM,hs.find,hs.find,hg.NA,hg.NA,hs.kept]
 unfold ax.move Model.move;dsimp only;rw[e];by_cases hr:(jb t (m.named t.id) ((m.find t.aH).map m.full) ((m.find t.ar).map m.full) m.kept.length).1≠0
 ·rw[if_pos hr,if_pos hr];exact⟨rfl,hs,hg⟩
 rw[if_neg hr,if_neg hr];have TW:=adO.1 hr;obtain⟨d,c,hd,hc,hn,pH,nV,hlg,Sh,Si,rL,OS,hsc,FO,qM⟩:=tK TW;generalize (jb t (m.named t.id) ((m.find t.aH).map m.full) ((m.find t.ar).map m.full) m.kept.length).2=n at *;obtain⟨Uh,adp,ado,hq1,Qr⟩:=Le pH nV;rw[hg.NA] at hd hc;have Y':b.find t.aH=some d:=by rw[hs.find];exact hd
 have Za:b.find t.ar=some c:=by rw[hs.find];exact hc
 obtain⟨d0,VI,rfl⟩:=Option.map_eq_some_iff.1 hd;obtain⟨c0,hc0,rfl⟩:=Option.map_eq_some_iff.1 hc;obtain⟨DW,Ez⟩:=wH VI;obtain⟨LP,DX⟩:=wH hc0;refine⟨rfl,⟨?_,?_,?_,?_⟩,?_⟩
 ·unfold ax.yn;rw[Y',Za];show((b.ag.map _).map _)=m.made.map (Md.full (m.kept++[_]));rw[hs.ag,afb,afb];apply aeR;intro a ha;rw[C4];exact Hw (d:=Md.full m.kept d0) (c:=Md.full m.kept c0) (x:=Md.full m.kept a) Uh Ez DX nV OS hsc (fun hx=>hg.one hd ha hx) (fun hx=>hg.one hc ha hx) FO qM hq1 Qr
 ·unfold ax.yn;rw[Y',Za];show b.kept++[(⟨t,{{t with aC:=n} with af:=b.af+1,born:=b.clock},waits t⟩:Kept)]=m.kept++[_];rw[hs.kept,hs.af,hs.clock]
 ·unfold ax.yn;rw[Y',Za];exact hs.clock
 ·unfold ax.yn;rw[Y',Za];show b.af+1=m.af+1;rw[hs.af]
 ·have hdz:=hg.zero d0 DW;have hcz:=hg.zero c0 LP;have hle:∀id(k:Kept),k.move.aH=t.aH→k.move.aC=n→k.move.flags=t.flags→k.fate=waits t→vF id k+xG id k≤if t.aH=id then n else 0:=fun id k e1 e2 e3 e4=>by
   have hx:k.fate=1→¬jx k:=fun h1 h2=>by
    rw[e4] at h1;unfold waits at h1;by_cases h3:has t.flags 2
    ·exact h2.1 (by rw[e3];exact h3)
    ·rw[if_neg h3] at h1;exact absurd h1 (by decide)
   unfold vF xG;rw[e1,e2];by_cases h1:t.aH=id
   ·by_cases h2:k.fate=1
    ·simp[h1,h2,hx h2]
    ·simp[h1,h2];split<;>omega
   ·simp[h1]
  have aam:∀id(k:Kept),k.move.ar=t.ar→k.move.aC=n→k.move.flags=t.flags→k.fate=waits t→vG id k+xH id k≤if t.ar=id then n else 0:=fun id k e1 e2 e3 e4=>by
   have hx:k.fate=1→¬jx k:=fun h1 h2=>by
    rw[e4] at h1;unfold waits at h1;by_cases h3:has t.flags 2
    ·exact h2.1 (by rw[e3];exact h3)
    ·rw[if_neg h3] at h1;exact absurd h1 (by decide)
   unfold vG xH;rw[e1,e2];by_cases h1:t.ar=id
   ·by_cases h2:k.fate=1
    ·simp[h1,h2,hx h2]
    ·simp[h1,h2];split<;>omega
   ·simp[h1]
  refine⟨hg.zero,hg.ids,hg.mC,?_,fun k hk=>?_,fun k hk=>?_,?_,fun a ha=>?_,fun a ha=>?_,fun a ha=>?_⟩
  ·show((m.kept++[_]).map _).Nodup;rw[ad8,List.nodup_append];refine⟨hg.names,by simp,fun x hx y hy=>?_⟩;simp only[aeb,afa,List.mem_singleton] at hy;obtain⟨k,hk,rfl⟩:=aek.1 hx;intro VA;unfold Model.named at hn;have:=aeW.1 hn k hk;simp[VA,hy] at this
  ·rcases aee.1 hk with hk|hk
   ·exact hg.s7 k hk
   ·simp only[List.mem_singleton] at hk;subst hk;unfold waits;by_cases h2:has t.flags 2
    ·simp only[if_pos h2];exact⟨by decide,by decide,by simp[h2]⟩
    ·simp only[if_neg h2];exact⟨by decide,by decide,by simp[h2]⟩
  ·rcases aee.1 hk with hk|hk
   ·exact hg.tB k hk
   ·simp only[List.mem_singleton] at hk;subst hk;exact⟨Uh,aek.2 ⟨d0,DW,Ez⟩,aek.2 ⟨c0,LP,DX⟩⟩
  ·show(m.kept++[_]).length≤96;rw[adD,aeZ];omega
  ·show S (vF a.id) (m.kept++[_])+S (xG a.id) (m.kept++[_])<aO;rw[ru,ru];generalize hK:Kept.mk t _ (waits t)=K;have h1:=hle a.id K (by rw[←hK]) (by rw[←hK]) (by rw[←hK]) (by rw[←hK]);have h2:=hg.vo a ha;by_cases Un:t.aH=a.id
   ·rw[if_pos Un] at h1;have h3:=hg.one hd ha Un.symm;rw[←h3] at OS;have h4:=hg.zero a ha;have e1:(Md.full m.kept a).dp=a.dp+S (vF a.id) m.kept:=rfl;have e2:(Md.full m.kept a).dq=a.dq+S (xG a.id) m.kept:=rfl;omega
   ·rw[if_neg Un] at h1;omega
  ·show S (vG a.id) (m.kept++[_])+S (xH a.id) (m.kept++[_])<aO;rw[ru,ru];generalize hK:Kept.mk t _ (waits t)=K;have h1:=aam a.id K (by rw[←hK]) (by rw[←hK]) (by rw[←hK]) (by rw[←hK]);have h2:=hg.sO a ha;by_cases Un:t.ar=a.id
   ·rw[if_pos Un] at h1;have h3:=hg.one hc ha Un.symm;rw[←h3] at hsc;have e1:(Md.full m.kept a).cp=a.cp+S (vG a.id) m.kept:=rfl;have e2:(Md.full m.kept a).cq=a.cq+S (xH a.id) m.kept:=rfl;omega
   ·rw[if_neg Un] at h1;omega
  ·show S (qn a.id) (m.kept++[_])≤1;rw[ru];have h2:=hg.qS a ha;generalize hK:Kept.mk t _ (waits t)=K;by_cases mF:iW a.id K
   ·have h3:qn a.id K=1:=if_pos mF;have h0:S (qn a.id) m.kept=0:=by
     rcases mF.1 with⟨_,hh⟩|⟨_,hh⟩
     ·rw[←hK] at hh;have:=hg.one hd ha (show a.id=t.aH from hh.symm);rw[←this] at Sh;exact A8 (hg.zero a ha).2.2.2.2.1 Sh
     ·rw[←hK] at hh;have:=hg.one hc ha (show a.id=t.ar from hh.symm);rw[←this] at Si;exact A8 (hg.zero a ha).2.2.2.2.1 Si
    omega
   ·have h3:qn a.id K=0:=if_neg mF;omega
def modify_eq{α:Type}(f:α→α):∀(l:List α)(i:Nat)(h:i<l.length),l.modify i f=l.set i (f l[i])
 |[],i,h=>by simp at h
 |x::l,0,h=>by simp[List.modify]
 |x::l,i+1,h=>by
  have:=modify_eq f l i (by simpa using h);simp[List.modify_succ_cons,this]
def ended{l:List Kept}{i:Nat}(hi:i<l.length){f:Int}(h1:l[i].fate=1)(hw:has l[i].move.flags 2)(hf:f=2∨f=3∨f=4)(id:Nat):
 S (vF id) (l.set i {l[i] with fate:=f})+(if l[i].move.aH=id then l[i].move.aC else 0)=S (vF id) l∧
 S (vG id) (l.set i {l[i] with fate:=f})+(if l[i].move.ar=id then l[i].move.aC else 0)=S (vG id) l∧
 S (xG id) (l.set i {l[i] with fate:=f})=S (xG id) l∧S (xH id) (l.set i {l[i] with fate:=f})=S (xH id) l∧
 S (qn id) (l.set i {l[i] with fate:=f})+(if f≠2∧(has l[i].move.flags 64∧l[i].move.aH=id∨has l[i].move.flags 128∧l[i].move.ar=id) then 1 else 0)=S (qn id) l:=by
 have a1:=Di (vF id) l i {l[i] with fate:=f} hi;have a2:=Di (vG id) l i {l[i] with fate:=f} hi;have a3:=Di (xG id) l i {l[i] with fate:=f} hi;have a4:=Di (xH id) l i {l[i] with fate:=f} hi;have a5:=Di (qn id) l i {l[i] with fate:=f} hi;have b1:vF id {l[i] with fate:=f}=0:=by unfold vF;rw[if_neg (by rintro⟨hh,_⟩;dsimp only at hh;omega)]
 have b2:vG id {l[i] with fate:=f}=0:=by unfold vG;rw[if_neg (by rintro⟨hh,_⟩;dsimp only at hh;omega)]
 have b3:xG id {l[i] with fate:=f}=xG id l[i]:=rfl;have b4:xH id {l[i] with fate:=f}=xH id l[i]:=rfl;have c1:vF id l[i]=if l[i].move.aH=id then l[i].move.aC else 0:=by
  unfold vF;by_cases h:l[i].move.aH=id
  ·rw[if_pos ⟨h1,h⟩,if_pos h]
  ·rw[if_neg (fun hh=>h hh.2),if_neg h]
 have c2:vG id l[i]=if l[i].move.ar=id then l[i].move.aC else 0:=by
  unfold vG;by_cases h:l[i].move.ar=id
  ·rw[if_pos ⟨h1,h⟩,if_pos h]
  ·rw[if_neg (fun hh=>h hh.2),if_neg h]
 rw[b1,c1] at a1;rw[b2,c2] at a2;rw[b3] at a3;rw[b4] at a4;refine⟨by omega,by omega,by omega,by omega,?_⟩;by_cases mF:has l[i].move.flags 64∧l[i].move.aH=id∨has l[i].move.flags 128∧l[i].move.ar=id
 ·have d1:qn id l[i]=1:=if_pos ⟨mF,.inl h1⟩;by_cases zv:f=2
  ·have d2:qn id {l[i] with fate:=f}=1:=if_pos ⟨mF,.inr zv⟩;rw[if_neg (fun hh=>hh.1 zv)];omega
  ·have d2:qn id {l[i] with fate:=f}=0:=if_neg (by rintro⟨_,hh⟩;dsimp only at hh;omega);rw[if_pos ⟨zv,mF⟩];omega
 ·have d1:qn id l[i]=0:=if_neg (fun hh=>mF hh.1);have d2:qn id {l[i] with fate:=f}=0:=if_neg (fun hh=>mF hh.1);rw[if_neg (fun hh=>mF hh.2)];omega
def DA(d:aS)(p:Move)(n:Nat)(f:Int):(vc d p n f).id=d.id∧(vc d p n f).af=d.af:=by unfold vc open_;split<;>(try exact⟨rfl,rfl⟩);split<;>exact⟨rfl,rfl⟩
def DB(d:aS)(p:Move)(n:Nat)(f:Int):(vW d p n f).id=d.id∧(vW d p n f).af=d.af:=by unfold vW open_;split<;>(try exact⟨rfl,rfl⟩);split<;>exact⟨rfl,rfl⟩
def E8{l:List Kept}{i:Nat}(hi:i<l.length){f:Int}{n:Nat}{a:aS}(h1:l[i].fate=1)(hw:has l[i].move.flags 2)(hf:f=2∨f=3∨f=4)(ji:l[i].move.aH≠l[i].move.ar)(ha0:0≤a.flags)(ha8:a.flags<8)(mF:S (qn a.id) l≤1)
 {d c:aS}(hd:d.id=l[i].move.aH)(hc:c.id=l[i].move.ar)(Z2:a.id=l[i].move.aH→full l a=d)(Z3:a.id=l[i].move.ar→full l a=c):
 (fun y:aS=>if y.id=(vW c l[i].move n f).id then{vW c l[i].move n f with af:=y.af} else y) ((fun y:aS=>if y.id=(vc d l[i].move n f).id then{vc d l[i].move n f with af:=y.af} else y) (full l a))
 ={full (l.set i {l[i] with fate:=f}) a with dq:=(full l a).dq+(if f=2∧l[i].move.aH=a.id then n else 0),cq:=(full l a).cq+(if f=2∧l[i].move.ar=a.id then n else 0)}:=by
 have G0:(full l a).id=a.id:=rfl;obtain⟨e1,e2,e3,e4,e5⟩:=ended hi h1 hw hf a.id;dsimp only;rw[(DB c _ n f).1,(DA d _ n f).1,hd,hc];generalize hk:l[i]=k at *;generalize hl:l.set i {k with fate:=f}=l' at *;by_cases KS:a.id=k.move.aH
 ·have hx:=Z2 KS;rw[if_pos (show(full l a).id=k.move.aH by rw[G0];exact KS),if_neg (show ¬k.move.aH=k.move.ar from ji),←hx];have T6: ¬k.move.ar=a.id:=fun hh=>ji (by rw[hh,KS]);rw[if_pos KS.symm] at e1;rw[if_neg T6] at e2;unfold vc open_ full;dsimp only;by_cases h2:f=2
  ·subst h2;simp only[if_true,true_and,KS.symm,T6,if_false,aev];rw[if_neg (by rintro⟨hh,_⟩;exact hh rfl)] at e5;have:S (qn a.id) l'=S (qn a.id) l:=by omega
   simp only[this,e3,e4]
   congr 1<;>omega
  ·have hb:∀p:Prop,¬(f=2∧p):=fun p hh=>h2 hh.1;rw[if_neg h2,if_neg (hb _),if_neg (hb _)];by_cases QH:has k.move.flags 64
   ·rw[if_pos ⟨h2,.inl ⟨QH,KS.symm⟩⟩] at e5;have z1:S (qn a.id) l'=0:=by omega
    have z2: ¬S (qn a.id) l=0:=by omega
    simp only[z1,z2,QH,if_true,if_false,e3,e4]
    congr 1<;>omega
   ·rw[if_neg (by rintro⟨_,hh|hh⟩;exact QH hh.1;exact T6 hh.2)] at e5;have:S (qn a.id) l'=S (qn a.id) l:=by omega
    simp only[this,QH,if_false,e3,e4]
    congr 1<;>omega
 ·rw[if_neg (show ¬(full l a).id=k.move.aH by rw[G0];exact KS)];have KL: ¬k.move.aH=a.id:=fun hh=>KS hh.symm;by_cases Jv:a.id=k.move.ar
  ·have hx:=Z3 Jv;rw[if_pos (show(full l a).id=k.move.ar by rw[G0];exact Jv),←hx];rw[if_neg KL] at e1;rw[if_pos Jv.symm] at e2;unfold vW open_ full;dsimp only;by_cases h2:f=2
   ·subst h2;simp only[if_true,true_and,Jv.symm,KL,if_false,aev];rw[if_neg (by rintro⟨hh,_⟩;exact hh rfl)] at e5;have:S (qn a.id) l'=S (qn a.id) l:=by omega
    simp only[this,e3,e4]
    congr 1<;>omega
   ·have hb:∀p:Prop,¬(f=2∧p):=fun p hh=>h2 hh.1;rw[if_neg h2,if_neg (hb _),if_neg (hb _)];by_cases HM:has k.move.flags 128
    ·rw[if_pos ⟨h2,.inr ⟨HM,Jv.symm⟩⟩] at e5;have z1:S (qn a.id) l'=0:=by omega
     have z2: ¬S (qn a.id) l=0:=by omega
     simp only[z1,z2,HM,if_true,if_false,e3,e4]
     congr 1<;>omega
    ·rw[if_neg (by rintro⟨_,hh|hh⟩;exact KL hh.2;exact HM hh.1)] at e5;have:S (qn a.id) l'=S (qn a.id) l:=by omega
     simp only[this,HM,if_false,e3,e4]
     congr 1<;>omega
  ·rw[if_neg (show ¬(full l a).id=k.move.ar by rw[G0];exact Jv)];have T7: ¬k.move.ar=a.id:=fun hh=>Jv hh.symm;rw[if_neg KL] at e1;rw[if_neg T7] at e2;rw[if_neg (by rintro⟨_,hh|hh⟩;exact KL hh.2;exact T7 hh.2)] at e5;have:S (qn a.id) l'=S (qn a.id) l:=by omega
   unfold full;simp only[this,KL,T7,and_false,if_false,aev,e3,e4]
   congr 1<;>omega
def yE{l:List Kept}{p:Kept→Bool}:l.find? p=(l.findIdx? p).bind fun i=>l[i]?:=by
 induction l with
 |nil=>rfl
 |cons x l ih=>
  rw[List.find?_cons,List.findIdx?_cons];cases hp:p x with
  |true=>rfl
  |false=>
   simp only[ih];cases l.findIdx? p with
   |none=>rfl
   |some i=>simp
def mI.make{b:ax}{m:Model}{a:aS}(hs:mI b m)(hg:Ground m):(b.make a).1=(m.make a).1∧mI (b.make a).2 (m.make a).2∧Ground (m.make a).2:=by
 unfold ax.make Model.make;by_cases h1:qE a≠0
 ·rw[if_pos h1,if_pos h1];exact⟨rfl,hs,hg⟩
 rw[if_neg h1,if_neg h1,hs.find];cases hf:m.find a.id with
 |some x=>
  refine⟨?_,hs,hg⟩;show rr a (Md.full m.kept x)=rr a x;have hz:=hg.zero x (wH hf).1;unfold rr Md.full;dsimp only;have:(if S (qn x.id) m.kept=0 then x.flags else x.flags%8+8)/2%4=x.flags/2%4:=by split<;>omega
  rw[this]
 |none=>
  have hlen:b.ag.length=m.made.length:=by rw[hs.ag,ad1]
  dsimp only[Option.map_none];rw[hlen];by_cases h2:32≤m.made.length
  ·rw[if_pos h2,if_pos h2];exact⟨rfl,hs,hg⟩
  rw[if_neg h2,if_neg h2];have pH:=adO.1 h1;have lK:∀x∈m.made,x.id≠a.id:=fun x hx=>by
   have:=aeW.1 hf x hx;simpa using this
  have hc:0≤a.flags∧a.flags≤7∧a.dp=0∧a.dq=0∧a.cp=0∧a.cq=0:=by
   unfold qE at pH;by_cases c1:a.flags<0∨7<a.flags
   ·rw[if_pos c1] at pH;exact absurd pH (by decide)
   rw[if_neg c1] at pH;by_cases c2:a.id=0
   ·rw[if_pos c2] at pH;exact absurd pH (by decide)
   rw[if_neg c2] at pH;by_cases c3:a.id=aO-1
   ·rw[if_pos c3] at pH;exact absurd pH (by decide)
   rw[if_neg c3] at pH;by_cases c4:has a.flags 2∧has a.flags 4
   ·rw[if_pos c4] at pH;exact absurd pH (by decide)
   rw[if_neg c4] at pH;by_cases c5:a.dp≠0∨a.dq≠0∨a.cp≠0∨a.cq≠0∨a.af≠0
   ·rw[if_pos c5] at pH;exact absurd pH (by decide)
   omega
  have z:∀k∈m.kept,k.move.aH≠a.id∧k.move.ar≠a.id:=fun k hk=>by
   obtain⟨_,s1,s2⟩:=hg.tB k hk;obtain⟨x,hx,Z1⟩:=aek.1 s1;obtain⟨y,hy,Z0⟩:=aek.1 s2;exact⟨fun h=>lK x hx (by rw[Z1,h]),fun h=>lK y hy (by rw[Z0,h])⟩
  have S0:∀f:Kept→Nat,(∀k∈m.kept,f k=0)→S f m.kept=0:=fun f hf=>by
   have:∀l:List Kept,(∀k∈l,f k=0)→S f l=0:=fun l=>by
    induction l with
    |nil=>intro _;rfl
    |cons x l ih=>intro h;rw[oy,h x (by simp),ih fun k hk=>h k (by simp[hk])]
   exact this _ hf
  have z1:S (vF a.id) m.kept=0:=S0 _ fun k hk=>if_neg (fun hh=>(z k hk).1 hh.2);have z2:S (vG a.id) m.kept=0:=S0 _ fun k hk=>if_neg (fun hh=>(z k hk).2 hh.2);have z3:S (xG a.id) m.kept=0:=S0 _ fun k hk=>if_neg (fun hh=>(z k hk).1 hh.2);have z4:S (xH a.id) m.kept=0:=S0 _ fun k hk=>if_neg (fun hh=>(z k hk).2 hh.2);have z5:S (qn a.id) m.kept=0:=S0 _ fun k hk=>if_neg (fun hh=>by
   rcases hh.1 with h|h
   ·exact(z k hk).1 h.2
   ·exact(z k hk).2 h.2)
  refine⟨rfl,⟨?_,hs.kept,hs.clock,by show b.af+1=m.af+1;rw[hs.af]⟩,?_⟩
  ·show b.ag++[_]=(m.made++[_]).map (Md.full m.kept);rw[ad8,hs.ag,hs.af]
   congr 1
   simp only[aeb,afa]
   congr 1
   unfold Md.full;dsimp only;rw[z1,z2,z3,z4,z5,if_pos rfl];simp
  ·have key:∀x∈m.made++[({a with af:=m.af+1,flags:=a.flags/2* 2}:aS)],x∈m.made∨x={a with af:=m.af+1,flags:=a.flags/2* 2}:=fun x hx=>by
    rcases aee.1 hx with h|h
    ·exact .inl h
    ·exact .inr (by simpa using h)
   refine⟨fun x hx=>?_,?_,?_,hg.names,hg.s7,fun k hk=>?_,hg.some_,fun x hx=>?_,fun x hx=>?_,fun x hx=>?_⟩
   ·rcases key x hx with h|rfl
    ·exact hg.zero x h
    ·exact⟨hc.2.2.1,hc.2.2.2.1,hc.2.2.2.2.1,hc.2.2.2.2.2,by show 0≤a.flags/2* 2;omega,by show a.flags/2* 2<8;omega⟩
   ·show((m.made++[_]).map _).Nodup;rw[ad8,List.nodup_append];refine⟨hg.ids,by simp,fun x hx y hy=>?_⟩;simp only[aeb,afa,List.mem_singleton] at hy;obtain⟨u,hu,rfl⟩:=aek.1 hx;rw[hy];exact lK u hu
   ·show(m.made++[_]).length≤32;rw[adD,aeZ];omega
   ·obtain⟨s0,s1,s2⟩:=hg.tB k hk;refine⟨s0,?_,?_⟩
    ·show _∈(m.made++[_]).map _;rw[ad8];exact List.mem_append_left _ s1
    ·show _∈(m.made++[_]).map _;rw[ad8];exact List.mem_append_left _ s2
   ·rcases key x hx with h|rfl
    ·exact hg.vo x h
    ·show S (vF a.id) m.kept+S (xG a.id) m.kept<aO;rw[z1,z3];decide
   ·rcases key x hx with h|rfl
    ·exact hg.sO x h
    ·show S (vG a.id) m.kept+S (xH a.id) m.kept<aO;rw[z2,z4];decide
   ·rcases key x hx with h|rfl
    ·exact hg.qS x h
    ·show S (qn a.id) m.kept≤1;rw[z5];decide
def Model.M5{m:Model}{id:Nat}{k:Kept}(h:m.named id=some k):∃i,m.name id=some i∧∃hi:i<m.kept.length,m.kept[i]=k∧k.move.id=id:=by
 unfold Model.named at h;rw[yE] at h;unfold Model.name;cases hx:m.kept.findIdx? (fun k=>decide (k.move.id=id)) with
 |none=>rw[hx] at h;cases h
 |some i=>
  rw[hx] at h;simp only[Option.bind_some] at h;obtain⟨hi,hk⟩:=adC.1 h;refine⟨i,rfl,hi,hk,?_⟩;have:=(List.findIdx?_eq_some_iff_getElem.1 hx);obtain⟨_,hp,_⟩:=this;rw[hk] at hp;simpa using hp
def Model.Kx{m:Model}{id:Nat}(h:m.named id=none):m.name id=none:=by
 unfold Model.named at h;rw[yE] at h;unfold Model.name;cases hx:m.kept.findIdx? (fun k=>decide (k.move.id=id)) with
 |none=>rfl
 |some i=>
  rw[hx] at h;simp only[Option.bind_some] at h;have:=(List.findIdx?_eq_some_iff_getElem.1 hx).1;rw[adA this] at h;cases h
def Kw{l:List Kept}(hn:(l.map (·.move.id)).Nodup){i j:Nat}(hi:i<l.length)(hj:j<l.length)(h:l[i].move.id=l[j].move.id):i=j:=by
 have e1:(l.map (·.move.id))[i]?=some (l[i].move.id):=by rw[aen,adA hi];rfl
 have e2:(l.map (·.move.id))[j]?=some (l[i].move.id):=by rw[aen,adA hj,h];rfl
 exact(List.getElem?_inj (by simpa using hi) hn).1 (e1.trans e2.symm)
def F8{l:List Kept}(hn:(l.map (·.move.id)).Nodup){i:Nat}(hi:i<l.length)(h1:l[i].fate=1)(f:Int):(l.map fun k=>if k.move.id=l[i].move.id∧k.fate=1 then{k with fate:=f} else k)=l.set i {l[i] with fate:=f}:=by
 apply aeV;intro j;rw[aen,ad7];by_cases GZ:i=j
 ·subst GZ;rw[adA hi,if_pos rfl,if_pos hi,ael,if_pos ⟨rfl,h1⟩]
 ·rw[if_neg GZ];cases hj:l[j]? with
  |none=>rfl
  |some k=>
   obtain⟨Nl,hk⟩:=adC.1 hj;rw[ael,if_neg];rintro⟨hh,_⟩;rw[←hk] at hh;exact GZ (Kw hn hi Nl hh.symm)
def oL{m:Model}{i:Nat}(hi:i<m.kept.length)(f:Int):(m.c7 i f).kept=m.kept.set i {m.kept[i] with fate:=f}:=by
 unfold Model.c7;rw[modify_eq _ _ _ hi]
def Ground.c7{m:Model}(hg:Ground m){i:Nat}(hi:i<m.kept.length)(h1:m.kept[i].fate=1){f:Int}(hf:f=2∨f=3∨f=4):Ground (m.c7 i f):=by
 have hk:=oL (m:=m) hi f;have mQ:=adZ hi;have hw:has m.kept[i].move.flags 2:=(hg.s7 _ mQ).2.2.2 (by omega);have acY:(m.c7 i f).made=m.made:=rfl;have key:∀k∈(m.c7 i f).kept,∃k0∈m.kept,k.move=k0.move∧k.asked=k0.asked∧(k=k0∨k.fate=f∧k0.fate=1):=fun k Jt=>by
  rw[hk] at Jt;rcases aeq Jt with h|h
  ·exact⟨k,h,rfl,rfl,.inl rfl⟩
  ·subst h;exact⟨m.kept[i],mQ,rfl,rfl,.inr ⟨rfl,h1⟩⟩
 refine⟨hg.zero,hg.ids,hg.mC,?_,fun k Jt=>?_,fun k Jt=>?_,?_,fun a ha=>?_,fun a ha=>?_,fun a ha=>?_⟩
 ·rw[hk,List.map_set];have:m.kept[i].move.id=(m.kept.map (·.move.id))[i]'(by simpa using hi):=by simp
  have e:(m.kept.map (·.move.id)).set i ({m.kept[i] with fate:=f}:Kept).move.id=m.kept.map (·.move.id):=by
   show(m.kept.map (·.move.id)).set i m.kept[i].move.id=_;rw[this,List.set_getElem_self]
  rw[e];exact hg.names
 ·obtain⟨k0,h0,e1,e2,e3⟩:=key k Jt;have:=hg.s7 k0 h0;rcases e3 with rfl|⟨e3,e4⟩
  ·exact this
  ·rw[e1];have h2:=this.2.2.2 (by omega);exact⟨by omega,by omega,fun _=>by omega,fun _=>h2⟩
 ·obtain⟨k0,h0,e1,e2,e3⟩:=key k Jt;rw[e1];exact hg.tB k0 h0
 ·rw[hk,aeF];exact hg.some_
 ·have:=hg.vo a ha;obtain⟨e1,e2,e3,e4,e5⟩:=ended hi h1 hw hf a.id;rw[hk];omega
 ·have:=hg.sO a ha;obtain⟨e1,e2,e3,e4,e5⟩:=ended hi h1 hw hf a.id;rw[hk];omega
 ·have:=hg.qS a ha;obtain⟨e1,e2,e3,e4,e5⟩:=ended hi h1 hw hf a.id;rw[hk];omega
def mI.release{b:ax}{m:Model}(hs:mI b m)(hg:Ground m){i:Nat}(hi:i<m.kept.length)(h1:m.kept[i].fate=1){f:Int}(hf:f=3∨f=4)(n:Nat):mI (b.release m.kept[i].move n f) (m.c7 i f):=by
 have mQ:=adZ hi;have hw:has m.kept[i].move.flags 2:=(hg.s7 _ mQ).2.2.2 (by omega);obtain⟨ji,hd,hc⟩:=hg.tB _ mQ;obtain⟨d0,DW,Ez⟩:=aek.1 hd;obtain⟨c0,LP,DX⟩:=aek.1 hc;have fd:b.find m.kept[i].move.aH=some (Md.full m.kept d0):=by
  rw[hs.find];unfold Model.find;rw[←Ez,nJ hg.ids DW];rfl
 have fc:b.find m.kept[i].move.ar=some (Md.full m.kept c0):=by
  rw[hs.find];unfold Model.find;rw[←DX,nJ hg.ids LP];rfl
 unfold ax.release;rw[fd,fc];have hk:=oL (m:=m) hi f;refine⟨?_,?_,hs.clock,hs.af⟩
 ·show((b.ag.map _).map _)=m.made.map (Md.full (m.c7 i f).kept);rw[hk,hs.ag,afb,afb];apply aeR;intro a ha;have hz:=hg.zero a ha;have:=E8 (l:=m.kept) (n:=n) (a:=a) (d:=Md.full m.kept d0) (c:=Md.full m.kept c0) hi h1 hw (.inr hf) ji hz.2.2.2.2.1 hz.2.2.2.2.2 (hg.qS a ha) Ez DX
   (fun h=>by
    have e:(m.find m.kept[i].move.aH).map (Md.full m.kept)=some (Md.full m.kept d0):=by rw[←hs.find];exact fd
    exact hg.one e ha h)
   (fun h=>by
    have e:(m.find m.kept[i].move.ar).map (Md.full m.kept)=some (Md.full m.kept c0):=by rw[←hs.find];exact fc
    exact hg.one e ha h)
  refine Eq.trans this ?_;have h2: ¬f=2:=by omega
  obtain⟨e1,e2,e3,e4,e5⟩:=ended hi h1 hw (.inr hf) a.id;rw[if_neg (fun hh=>h2 hh.1),if_neg (fun hh=>h2 hh.1)];unfold Md.full;dsimp only;rw[e3,e4]
  rfl
 ·show(b.kept.map _)=_;rw[hs.kept,hk];exact F8 hg.names hi h1 f
def Gd{t:Move}{named:Option Kept}{k:Kept}{d1 c1 d2 c2:Bool}{many:Nat}(h:has k.move.flags 2→¬1<k.fate→d1=d2∧c1=c2):lO t named (some k) d1 c1 many=lO t named (some k) d2 c2 many:=by
 unfold lO;split
 ·rfl
 split
 ·rfl
 split
 ·rfl
 ·dsimp only;split
  ·rfl
  rename_i h2;split
  ·rfl
  split
  ·rfl
  rename_i h3;obtain⟨e1,e2⟩:=h (adO.1 h2) h3;rw[e1,e2]
def Be{t:Move}{named:Option Kept}{k:Kept}{d c:Bool}{many:Nat}(h:lO t named (some k) d c many=0)(hk:0≤k.fate):named=none∧lE t=0∧iR t.flags∧has k.move.flags 2∧¬1<k.fate∧¬jL t k.move∧many<96:=by
 unfold lO at h;by_cases h1:lE t≠0
 ·rw[if_pos h1] at h;exact absurd h h1
 rw[if_neg h1] at h;by_cases h2: ¬iR t.flags
 ·rw[if_pos h2] at h;exact absurd h (by decide)
 rw[if_neg h2] at h;cases named with
 |some x=>exact absurd h (oW t x.asked)
 |none=>
  dsimp only at h;by_cases h3: ¬has k.move.flags 2
  ·rw[if_pos h3] at h;exact absurd h (by decide)
  rw[if_neg h3] at h;by_cases h4:dA t k.move
  ·rw[if_pos h4] at h;exact absurd h (by decide)
  rw[if_neg h4] at h;by_cases h5:1<k.fate
  ·rw[if_pos h5] at h;omega
  rw[if_neg h5] at h;by_cases h6:jL t k.move
  ·rw[if_pos h6] at h;exact absurd h (by decide)
  rw[if_neg h6] at h;by_cases h7:has t.flags 4∧d=true
  ·rw[if_pos h7] at h;exact absurd h (by decide)
  rw[if_neg h7] at h;by_cases h8:has t.flags 4∧c=true
  ·rw[if_pos h8] at h;exact absurd h (by decide)
  rw[if_neg h8] at h;by_cases h9:96≤many
  ·rw[if_pos h9] at h;exact absurd h (by decide)
  exact⟨rfl,adO.1 h1,adO.1 h2,adO.1 h3,h5,h6,by omega⟩
def Gk{t:Move}(h:lE t=0)(he:iR t.flags): ¬has t.flags 2∧(has t.flags 8↔ ¬has t.flags 4)∧¬has t.flags 64∧¬has t.flags 128:=by
 unfold lE at h;by_cases h1:t.flags<0∨255<t.flags
 ·rw[if_pos h1] at h;exact absurd h (by decide)
 rw[if_neg h1] at h;by_cases h2:t.id=0
 ·rw[if_pos h2] at h;exact absurd h (by decide)
 rw[if_neg h2] at h;by_cases h3:t.id=aO-1
 ·rw[if_pos h3] at h;exact absurd h (by decide)
 rw[if_neg h3] at h;by_cases h4: ¬gW t.flags
 ·rw[if_pos h4] at h;exact absurd h (by decide)
 have h4:=adO.1 h4;unfold gW at h4;unfold iR at h4 he;obtain⟨g1,g2,g3⟩:=h4;refine⟨fun h2=>?_,⟨fun h8 h4=>g1 (.inr (.inr ⟨h4,h8⟩)),fun h4=>he.resolve_left h4⟩,fun QH=>?_,fun HM=>?_⟩
 ·rcases he with he|he
  ·exact g1 (.inl ⟨h2,he⟩)
  ·exact g1 (.inr (.inl ⟨h2,he⟩))
 ·have: ¬16≤t.flags:=fun hh=>g2 ⟨he,hh⟩;unfold has at QH;omega
 ·have: ¬16≤t.flags:=fun hh=>g2 ⟨he,hh⟩;unfold has at HM;omega
def yG{b:ax}{m:Model}(hs:mI b m)(hg:Ground m){i:Nat}(hi:i<m.kept.length)(h1:m.kept[i].fate=1){id:Nat}{F:Int}
 (G0:id=m.kept[i].move.aH∧F=64∨id=m.kept[i].move.ar∧F=128):b.jW id (has m.kept[i].move.flags F)=m.closed id i:=by
 have mQ:=adZ hi;have hw:has m.kept[i].move.flags 2:=(hg.s7 _ mQ).2.2.2 (by omega);obtain⟨ji,hd,hc⟩:=hg.tB _ mQ;have A5:id∈m.made.map (·.id):=by
  rcases G0 with⟨h,_⟩|⟨h,_⟩<;>rw[h]<;>assumption
 obtain⟨a,ha,XE⟩:=aek.1 A5;have hfm:m.find id=some a:=by unfold Model.find;rw[←XE];exact nJ hg.ids ha
 have hz:=hg.zero a ha;have hg3:=hg.c7 hi h1 (f:=3) (.inr (.inl rfl));have Se:=oL (m:=m) hi 3;have VF:=hg3.full (a:=a) ha;unfold Model.full at VF;have e1:m.closed id i=decide (8≤(Md.full (m.c7 i 3).kept a).flags):=by
  unfold Model.closed;rw[hfm];dsimp only;have:(m.kept.modify i fun k=>{k with fate:=3})=(m.c7 i 3).kept:=rfl;rw[this,VF]
 have e2:b.jW id (has m.kept[i].move.flags F)=decide (8≤(Md.full m.kept a).flags∧¬has m.kept[i].move.flags F):=by
  unfold ax.jW;rw[hs.find,hfm]
  rfl
 rw[e1,e2,decide_eq_decide];have LN:∀l,8≤(Md.full l a).flags↔S (qn a.id) l≠0:=fun l=>by
  by_cases h0:S (qn a.id) l=0
  ·have:(Md.full l a).flags=a.flags:=if_pos h0;rw[this];exact⟨fun h=>by omega,fun h=>absurd h0 h⟩
  ·have:(Md.full l a).flags=a.flags%8+8:=if_neg h0;rw[this];exact⟨fun _=>h0,fun _=>by omega⟩
 rw[LN,LN,Se];obtain⟨_,_,_,_,e5⟩:=ended hi h1 hw (f:=3) (.inr (.inl rfl)) a.id;have mF:=hg.qS a ha;rcases G0 with⟨h,rfl⟩|⟨h,rfl⟩
 ·have KS:m.kept[i].move.aH=a.id:=by rw[XE,h]
  have Jv: ¬m.kept[i].move.ar=a.id:=fun hh=>ji (by rw[KS,hh]);by_cases hF:has m.kept[i].move.flags 64
  ·rw[if_pos ⟨by decide,.inl ⟨hF,KS⟩⟩] at e5;exact⟨fun hh=>absurd hF hh.2,fun hh=>absurd (show S (qn a.id) _=0 by omega) hh⟩
  ·rw[if_neg (by rintro⟨_,hh|hh⟩;exact hF hh.1;exact Jv hh.2)] at e5;exact⟨fun hh=>by have:=hh.1;omega,fun hh=>⟨by omega,hF⟩⟩
 ·have Jv:m.kept[i].move.ar=a.id:=by rw[XE,h]
  have KS: ¬m.kept[i].move.aH=a.id:=fun hh=>ji (by rw[hh,Jv]);by_cases hF:has m.kept[i].move.flags 128
  ·rw[if_pos ⟨by decide,.inr ⟨hF,Jv⟩⟩] at e5;exact⟨fun hh=>absurd hF hh.2,fun hh=>absurd (show S (qn a.id) _=0 by omega) hh⟩
  ·rw[if_neg (by rintro⟨_,hh|hh⟩;exact KS hh.2;exact hF hh.1)] at e5;exact⟨fun hh=>by have:=hh.1;omega,fun hh=>⟨by omega,hF⟩⟩
def mI.mH{b:ax}{m:Model}{t:Move}(hs:mI b m)(hg:Ground m):(b.mH t).1=(m.mH t).1∧mI (b.mH t).2 (m.mH t).2∧Ground (m.mH t).2:=by
 unfold ax.mH Model.mH;rw[hs.DM,hs.DM,hs.kept];cases hp:m.named t.pending with
 |none=>
  rw[Model.Kx hp];exact⟨rfl,hs,hg⟩
 |some k=>
  obtain⟨i,hn,hi,hk,_⟩:=Model.M5 hp;rw[hn];dsimp only;rw[adA hi,hk];dsimp only;have mQ:k∈m.kept:=by rw[←hk];exact adZ hi
  have Y7:=hg.s7 k mQ;have Xs:lO t (m.named t.id) (some k) (b.jW k.move.aH (has k.move.flags 64)) (b.jW k.move.ar (has k.move.flags 128)) m.kept.length=lO t (m.named t.id) (some k) (m.closed k.move.aH i) (m.closed k.move.ar i) m.kept.length:=by
   refine Gd (fun h2 h3=>?_);have h1:m.kept[i].fate=1:=by rw[hk];have:=Y7.2.2.1 h2;omega
   have c1:=yG hs hg hi h1 (id:=k.move.aH) (F:=64) (by rw[hk];exact .inl ⟨rfl,rfl⟩);have c2:=yG hs hg hi h1 (id:=k.move.ar) (F:=128) (by rw[hk];exact .inr ⟨rfl,rfl⟩);rw[hk] at c1 c2;exact⟨c1,c2⟩
  rw[Xs];by_cases hr:lO t (m.named t.id) (some k) (m.closed k.move.aH i) (m.closed k.move.ar i) m.kept.length≠0
  ·rw[if_pos hr,if_pos hr];exact⟨rfl,hs,hg⟩
  rw[if_neg hr,if_neg hr];obtain⟨Jq,pH,nV,hw,Y9,uK,rL⟩:=Be (adO.1 hr) Y7.1;have h1:m.kept[i].fate=1:=by rw[hk];have:=Y7.2.2.1 hw;omega
  obtain⟨f2,f8,f64,f128⟩:=Gk pH nV;have hf:cf t=2∨cf t=3:=by unfold cf;split<;>simp
  have Ue:cf t=2∨cf t=3∨cf t=4:=by rcases hf with h|h<;>simp[h]
  have zv:cf t=2↔has t.flags 4:=by unfold cf;split<;>simp_all
  have G1:=hg.c7 hi h1 Ue;have Qw:=oL (m:=m) hi (cf t);obtain⟨ji,hd,hc⟩:=hg.tB k mQ;obtain⟨d0,DW,Ez⟩:=aek.1 hd;obtain⟨c0,LP,DX⟩:=aek.1 hc;have fd:b.find k.move.aH=some (Md.full m.kept d0):=by
   rw[hs.find];unfold Model.find;rw[←Ez,nJ hg.ids DW];rfl
  have fc:b.find k.move.ar=some (Md.full m.kept c0):=by
   rw[hs.find];unfold Model.find;rw[←DX,nJ hg.ids LP];rfl
  have r1:∀id st ck,vF id ⟨t,{kK t k.move with af:=st,born:=ck},0⟩=0:=fun id st ck=>if_neg (fun hh=>absurd hh.1 (show ¬(0:Int)=1 by decide));have r2:∀id st ck,vG id ⟨t,{kK t k.move with af:=st,born:=ck},0⟩=0:=fun id st ck=>if_neg (fun hh=>absurd hh.1 (show ¬(0:Int)=1 by decide));have rp:∀st ck,jx ⟨t,{kK t k.move with af:=st,born:=ck},0⟩↔cf t=2:=fun st ck=>by
   rw[zv];show(¬has t.flags 2∧¬has t.flags 8)↔_
   constructor
   ·rintro⟨_,hh⟩;by_cases h4:has t.flags 4
    ·exact h4
    ·exact absurd (f8.2 h4) hh
   ·intro h4;exact⟨f2,fun h8=>f8.1 h8 h4⟩
  have r3:∀id st ck,xG id ⟨t,{kK t k.move with af:=st,born:=ck},0⟩=if cf t=2∧k.move.aH=id then bU t k.move else 0:=fun id st ck=>by
   unfold xG;by_cases h:cf t=2∧k.move.aH=id
   ·rw[if_pos h,if_pos ⟨(rp st ck).2 h.1,h.2⟩];rfl
   ·rw[if_neg h,if_neg (fun hh=>h ⟨(rp st ck).1 hh.1,hh.2⟩)]
  have r4:∀id st ck,xH id ⟨t,{kK t k.move with af:=st,born:=ck},0⟩=if cf t=2∧k.move.ar=id then bU t k.move else 0:=fun id st ck=>by
   unfold xH;by_cases h:cf t=2∧k.move.ar=id
   ·rw[if_pos h,if_pos ⟨(rp st ck).2 h.1,h.2⟩];rfl
   ·rw[if_neg h,if_neg (fun hh=>h ⟨(rp st ck).1 hh.1,hh.2⟩)]
  have r5:∀id st ck,qn id ⟨t,{kK t k.move with af:=st,born:=ck},0⟩=0:=fun id st ck=>if_neg (fun hh=>by
   rcases hh.1 with h|h
   ·exact f64 h.1
   ·exact f128 h.1)
  have QG:cf t=2→bU t k.move≤k.move.aC:=fun h2=>by
   have h4:=zv.1 h2;by_cases a8:k.move.aC<bU t k.move
   ·exact absurd (.inl ⟨h4,a8⟩) uK
   ·omega
  refine⟨rfl,⟨?_,?_,?_,?_⟩,?_⟩
  ·unfold ax.release;rw[fd,fc];show((b.ag.map _).map _)=m.made.map (Md.full ((m.c7 i (cf t)).kept++[_]));rw[Qw,hs.ag,afb,afb];apply aeR;intro a ha;have hz:=hg.zero a ha;have:=E8 (l:=m.kept) (n:=bU t k.move) (a:=a) (d:=Md.full m.kept d0) (c:=Md.full m.kept c0) hi h1 (by rw[hk];exact hw) Ue (by rw[hk];exact ji) hz.2.2.2.2.1 hz.2.2.2.2.2 (hg.qS a ha) (by rw[hk];exact Ez) (by rw[hk];exact DX)
    (fun h=>by
     rw[hk] at h
     have e:(m.find k.move.aH).map (Md.full m.kept)=some (Md.full m.kept d0):=by rw[←hs.find];exact fd
     exact hg.one e ha h)
    (fun h=>by
     rw[hk] at h
     have e:(m.find k.move.ar).map (Md.full m.kept)=some (Md.full m.kept c0):=by rw[←hs.find];exact fc
     exact hg.one e ha h)
   rw[hk] at this;refine Eq.trans this ?_;obtain⟨e1,e2,e3,e4,e5⟩:=ended hi h1 (by rw[hk];exact hw) Ue a.id;rw[hk] at e3 e4;rw[C4,wE,r1,r2,r3,r4,hk];have G0:(Md.full (m.kept.set i {k with fate:=cf t}) a).id=a.id:=rfl;rw[G0];have aaj: ¬iW a.id ⟨t,{kK t k.move with af:=(m.c7 i (cf t)).af+1,born:=(m.c7 i (cf t)).clock},0⟩:=fun hh=>by
    rcases hh.1 with h|h
    ·exact f64 h.1
    ·exact f128 h.1
   rw[if_neg aaj];have q1:(Md.full m.kept a).dq=a.dq+S (xG a.id) m.kept:=rfl;have q2:(Md.full m.kept a).cq=a.cq+S (xH a.id) m.kept:=rfl;rw[q1,q2,←e3,←e4]
   rfl
  ·unfold ax.release;rw[fd,fc];show(b.kept.map _)++[_]=(m.c7 i (cf t)).kept++[_];have hms:(m.c7 i (cf t)).af=m.af:=rfl;have hmc:(m.c7 i (cf t)).clock=m.clock:=rfl;rw[Qw,hs.kept,hms,hmc]
   congr 1
   ·have:=F8 hg.names hi h1 (cf t);rw[hk] at this⊢;exact this
   ·show[(⟨t,{kK t k.move with af:=b.af+1,born:=b.clock},0⟩:Kept)]=_;rw[hs.af,hs.clock]
  ·unfold ax.release;rw[fd,fc];exact hs.clock
  ·unfold ax.release;rw[fd,fc];show b.af+1=m.af+1;rw[hs.af]
  ·refine⟨G1.zero,G1.ids,G1.mC,?_,fun x hx=>?_,fun x hx=>?_,?_,fun a ha=>?_,fun a ha=>?_,fun a ha=>?_⟩
   ·show(((m.c7 i (cf t)).kept++[_]).map _).Nodup;rw[ad8,List.nodup_append];refine⟨G1.names,by simp,fun x hx y hy=>?_⟩;simp only[aeb,afa,List.mem_singleton] at hy;rw[Qw,List.map_set] at hx;have e:(m.kept.map (·.move.id)).set i ({m.kept[i] with fate:=cf t}:Kept).move.id=m.kept.map (·.move.id):=by
     have:m.kept[i].move.id=(m.kept.map (·.move.id))[i]'(by simpa using hi):=by simp
     show(m.kept.map (·.move.id)).set i m.kept[i].move.id=_;rw[this,List.set_getElem_self]
    rw[e] at hx;obtain⟨z,hz,rfl⟩:=aek.1 hx;intro VA;unfold Model.named at Jq;have:=aeW.1 Jq z hz;rw[hy] at VA;have h5:z.move.id=t.id:=VA;simp[h5] at this
   ·rcases aee.1 hx with hx|hx
    ·exact G1.s7 x hx
    ·simp only[List.mem_singleton] at hx;subst hx;refine⟨by show(0:Int)≤0;decide,by show(0:Int)≤4;decide,?_⟩;show has t.flags 2↔(1:Int)≤0;exact⟨fun h=>absurd h f2,fun h=>absurd h (by decide)⟩
   ·rcases aee.1 hx with hx|hx
    ·exact G1.tB x hx
    ·simp only[List.mem_singleton] at hx;subst hx;exact⟨ji,hd,hc⟩
   ·show((m.c7 i (cf t)).kept++[_]).length≤96;rw[adD,aeZ,Qw,aeF];omega
   ·show S (vF a.id) ((m.c7 i (cf t)).kept++[_])+S (xG a.id) ((m.c7 i (cf t)).kept++[_])<aO;rw[ru,ru,r1,r3,Qw];obtain⟨e1,e2,e3,e4,e5⟩:=ended hi h1 (by rw[hk];exact hw) Ue a.id;have:=hg.vo a ha;rw[hk] at e1 e3;rw[hk];by_cases hq:cf t=2∧k.move.aH=a.id
    ·have:=QG hq.1;rw[if_pos hq.2] at e1;rw[if_pos hq];omega
    ·rw[if_neg hq];omega
   ·show S (vG a.id) ((m.c7 i (cf t)).kept++[_])+S (xH a.id) ((m.c7 i (cf t)).kept++[_])<aO;rw[ru,ru,r2,r4,Qw];obtain⟨e1,e2,e3,e4,e5⟩:=ended hi h1 (by rw[hk];exact hw) Ue a.id;have:=hg.sO a ha;rw[hk] at e2 e4;rw[hk];by_cases hq:cf t=2∧k.move.ar=a.id
    ·have:=QG hq.1;rw[if_pos hq.2] at e2;rw[if_pos hq];omega
    ·rw[if_neg hq];omega
   ·show S (qn a.id) ((m.c7 i (cf t)).kept++[_])≤1;rw[ru,r5,Qw];obtain⟨e1,e2,e3,e4,e5⟩:=ended hi h1 (by rw[hk];exact hw) Ue a.id;have:=hg.qS a ha;rw[hk] at e5;rw[hk];omega
def mI.oF{b:ax}{m:Model}{t:Move}(hs:mI b m)(hg:Ground m):(b.oF t).1=(m.oF t).1∧mI (b.oF t).2 (m.oF t).2∧Ground (m.oF t).2:=by
 unfold ax.oF Model.oF;split
 ·exact hs.mH hg
 ·exact hs.move hg
def F9{m:Model}{i:Nat}(hi:i<m.kept.length)(clock:Int):((m.c7 i 4).kept.map fun k=>if kk clock k then{k with fate:=4} else k)=(m.kept.map fun k=>if kk clock k then{k with fate:=4} else k)∨¬kk clock m.kept[i]:=by
 by_cases ho:kk clock m.kept[i]
 ·left
  rw[oL hi];apply aeV;intro j;rw[aen,aen,ad7];by_cases GZ:i=j
  ·subst GZ;rw[if_pos rfl,if_pos hi,adA hi,ael,ael,if_pos ho];rw[if_neg (by rintro⟨hh,_⟩;exact absurd hh (show ¬(4:Int)=1 by decide))]
  ·rw[if_neg GZ]
 ·exact .inr ho
def F'{m:Model}{clock:Int}(h:∀k∈m.kept,¬kk clock k):(m.kept.map fun k=>if kk clock k then{k with fate:=4} else k)=m.kept:=by
 have:m.kept.map (fun k=>if kk clock k then{k with fate:=4} else k)=m.kept.map id:=aeR fun k hk=>if_neg (h k hk);rw[this,List.map_id]
section
variable {α σ τ:Type}
def bu(linked:α→Bool):List α→Nat×Bool
 |[]=>(0,false)
 |x::l=>if linked x then((bu linked l).1+1,(bu linked l).2) else(1,true)
def gU(f:σ→α→Int×σ):σ→List α→Nat→Option (Nat×Int)×σ
 |s,[],_=>(none,s)
 |s,x::l,i=>if(f s x).1≠0 then(some (i,(f s x).1),s) else gU f (f s x).2 l (i+1)
def jy(n:Nat):Option (Nat×Int)→List Int
 |none=>adQ n 0
 |some (i,c)=>(adQ n 1).set i c
def fX(f:σ→α→Int×σ)(linked:α→Bool):Nat→σ→List α→List Int×σ
 |0,s,_=>([],s)
 |_+1,s,[]=>([],s)
 |fuel+1,s,x::l=>
  if(bu linked (x::l)).2=false then(jy (bu linked (x::l)).1 (some ((bu linked (x::l)).1-1,2)),s)
  else match gU f s ((x::l).take (bu linked (x::l)).1) 0 with
   |(none,s')=>(jy (bu linked (x::l)).1 none++(fX f linked fuel s' ((x::l).drop (bu linked (x::l)).1)).1,(fX f linked fuel s' ((x::l).drop (bu linked (x::l)).1)).2)
   |(some e,_)=>(jy (bu linked (x::l)).1 (some e)++(fX f linked fuel s ((x::l).drop (bu linked (x::l)).1)).1,(fX f linked fuel s ((x::l).drop (bu linked (x::l)).1)).2)
def C'{f:σ→α→Int×σ}{g:τ→α→Int×τ}{R:σ→τ→Prop}(h:∀s t x,R s t→(f s x).1=(g t x).1∧R (f s x).2 (g t x).2):
 ∀(l:List α)(s:σ)(t:τ)(i:Nat),R s t→(gU f s l i).1=(gU g t l i).1∧((gU f s l i).1=none→R (gU f s l i).2 (gU g t l i).2)
 |[],s,t,i,hr=>⟨rfl,fun _=>hr⟩
 |x::l,s,t,i,hr=>by
  obtain⟨h1,h2⟩:=h s t x hr;unfold gU;rw[h1];by_cases h0:(g t x).1≠0
  ·rw[if_pos h0,if_pos h0];exact⟨rfl,fun hh=>by cases hh⟩
  ·rw[if_neg h0,if_neg h0];exact C' h l _ _ _ h2
def vU{f:σ→α→Int×σ}{g:τ→α→Int×τ}{R:σ→τ→Prop}(linked:α→Bool)(h:∀s t x,R s t→(f s x).1=(g t x).1∧R (f s x).2 (g t x).2):
 ∀(n:Nat)(l:List α)(s:σ)(t:τ),R s t→(fX f linked n s l).1=(fX g linked n t l).1∧R (fX f linked n s l).2 (fX g linked n t l).2
 |0,l,s,t,hr=>⟨rfl,hr⟩
 |n+1,[],s,t,hr=>⟨rfl,hr⟩
 |n+1,x::l,s,t,hr=>by
  unfold fX;by_cases hw:(bu linked (x::l)).2=false
  ·rw[if_pos hw,if_pos hw];exact⟨rfl,hr⟩
  rw[if_neg hw,if_neg hw];obtain⟨e1,e2⟩:=C' h ((x::l).take (bu linked (x::l)).1) s t 0 hr;cases hf:gU f s ((x::l).take (bu linked (x::l)).1) 0 with
  |mk o s'=>
   cases hg:gU g t ((x::l).take (bu linked (x::l)).1) 0 with
   |mk o' t'=>
    rw[hf,hg] at e1 e2;dsimp only at e1 e2;subst e1;cases o with
    |none=>
     obtain⟨i1,i2⟩:=vU linked h n ((x::l).drop (bu linked (x::l)).1) s' t' (e2 rfl);dsimp only;rw[i1];exact⟨rfl,i2⟩
    |some e=>
     obtain⟨i1,i2⟩:=vU linked h n ((x::l).drop (bu linked (x::l)).1) s t hr;dsimp only;rw[i1];exact⟨rfl,i2⟩
end
end Go.Md
namespace Go.Up
open Go.Sep Go.Den Go.RowKit Go.Prog Go.Md Go.bI
abbrev ax:=Go.Md.ax
structure AG(a:aS):Prop where
 ok:vy a
 vl:m9 a
 flags:0≤a.flags∧a.flags<16
 af:0≤a.af∧a.af<1000
structure KG(k:Kept):Prop where
 asked:uY k.asked
 move:uY k.move
 Ij:kN k.asked
 I9:kN k.move
 qv:0≤k.asked.flags∧k.asked.flags<256
 rG:0≤k.move.flags∧k.move.flags<256
 fate:0≤k.fate∧k.fate≤4
 timeout:0≤k.move.timeout∧k.move.timeout≤1073741824
 born:0≤k.move.born∧k.move.born≤1099511627776
structure Good(b:ax):Prop where
 ids:(b.ag.map (·.id)).Nodup
 names:(b.kept.map (·.move.id)).Nodup
 mC:b.ag.length≤32
 many:b.kept.length≤96
 LW:∀a∈b.ag,AG a
 LB:∀k∈b.kept,KG k
 rising:b.kept.Pairwise fun x y=>x.move.af<y.move.af
 stamps:∀k∈b.kept,1≤k.move.af∧k.move.af≤b.af
 clock:0≤b.clock∧b.clock≤1099511627776
 af:b.af=b.ag.length+b.kept.length
def idxOf{α:Type}(key:α→Nat)(l:List α):(Nat→Option Int)×Nat:=(fun id=>(l.findIdx? fun x=>key x=id).map Int.ofNat,l.length)
section
variable {α:Type} {key:α→Nat} {l:List α} {x y:α} {i id:Nat}
def rK(h:l.findIdx? (fun x=>key x=id)=some i):∃hi:i<l.length,key l[i]=id∧l.find? (fun x=>key x=id)=some l[i]:=by
 obtain⟨hi,h1,h2⟩:=List.findIdx?_eq_some_iff_getElem.1 h;refine⟨hi,by simpa using h1,?_⟩;rw[List.find?_eq_some_iff_getElem];exact⟨h1,i,hi,rfl,fun j hj=>by simpa using h2 j hj⟩
def wz(h:l.findIdx? (fun x=>key x=id)=none):l.find? (fun x=>key x=id)=none:=by
 rw[List.findIdx?_eq_none_iff] at h;rw[aeW];intro a ha;have:=h a ha;simpa using this
def nr(h:l.find? (fun x=>key x=id)=none):l.findIdx? (fun x=>key x=id)=none:=by
 rw[aeW] at h;rw[List.findIdx?_eq_none_iff];intro a ha;have:=h a ha;simpa using this
def wy(h:l.find? (fun a=>key a=key x)=none):idxOf key (l++[x])=(rZ (idxOf key l).1 (key x) (some (l.length:Int)),(idxOf key l).2+1):=by
 unfold idxOf;refine Prod.ext ?_ (by simp)
 funext id
 dsimp only[rZ];rw[List.findIdx?_append];by_cases e:id=key x
 ·subst e;rw[if_pos rfl,nr h];simp
 ·rw[if_neg e];have:List.findIdx? (fun a=>decide (key a=id)) [x]=none:=by simp;exact fun h=>e h.symm
  rw[this];cases l.findIdx? fun x=>decide (key x=id)<;>simp
def Jm(hi:i<l.length)(hk:key x=key l[i]):idxOf key (l.set i x)=idxOf key l:=by
 unfold idxOf;refine Prod.ext ?_ (by simp)
 funext id
 dsimp only
 congr 1
 have ZR:∀(l:List α)(i:Nat)(hi:i<l.length),key x=key l[i]→(l.set i x).findIdx? (fun x=>key x=id)=l.findIdx? fun x=>key x=id:=by
  intro l
  induction l with
  |nil=>intro i hi;simp at hi
  |cons a l ih=>
   intro i hi hk;cases i with
   |zero=>simp only[List.set_cons_zero,List.findIdx?_cons];simp at hk;rw[hk]
   |succ i=>simp only[aeP,List.findIdx?_cons];rw[ih i (by simpa using hi) (by simpa using hk)]
 exact ZR l i hi hk
def um(hn:(l.map key).Nodup)(hi:i<l.length):l.findIdx? (fun x=>key x=key l[i])=some i:=by
 rw[List.findIdx?_eq_some_iff_getElem];refine⟨hi,by simp,fun j hj=>?_⟩;have a8:j<l.length:=by omega
 have:=aeG.1 hn j i (by simpa using a8) (by simpa using hi) hj;simpa using this
def map_set(hn:(l.map key).Nodup)(hi:i<l.length)(g:α→α):(l.map fun x=>if key x=key l[i] then g x else x)=l.set i (g l[i]):=by
 apply List.ext_getElem (by simp);intro j h1 h2;simp only[ad1] at h1;rw[List.getElem_map,List.getElem_set];by_cases e:i=j
 ·subst e;simp
 ·rw[if_neg e,if_neg];intro hk;have a:=um hn h1;rw[hk,um hn hi] at a;exact e (adU.inj a)
end
def da:Nat→List Kept→List ln
 |_,[]=>[]
 |i,k::l=>(k.move.af,(i:Int))::da (i+1) l
def jJ:∀(i:Nat)(l:List Kept),(da i l).length=l.length
 |_,[]=>rfl
 |i,k::l=>by simp[da,jJ (i+1) l]
def jK:∀(i:Nat)(l:List Kept)(j:Nat),(da i l)[j]?=(l[j]?).map fun k=>(k.move.af,((i+j:Nat):Int))
 |_,[],j=>by simp[da]
 |i,k::l,0=>by simp[da]
 |i,k::l,j+1=>by simp only[da,adR,jK (i+1) l j];rw[show i+1+j=i+(j+1) by omega]
def q9:∀(i:Nat)(l:List Kept)(k:Kept),da i (l++[k])=da i l++[(k.move.af,((i+l.length:Nat):Int))]
 |i,[],k=>by simp[da]
 |i,x::l,k=>by simp only[aeN,da,q9 (i+1) l k];simp;omega
def vO{i:Nat}{l:List Kept}{x:ln}(h:x∈da i l):∃k∈l,x.1=k.move.af:=by
 obtain⟨j,hj⟩:=aeT h;rw[jK] at hj;cases hk:l[j]? with
 |none=>rw[hk] at hj;cases hj
 |some k=>rw[hk] at hj;cases hj;exact⟨k,ad3 hk,rfl⟩
def Dv{l:List Kept}{j:Nat}{k:Kept}(i:Nat)(hj:j<l.length)(hk:k.move.af=l[j].move.af):da i (l.set j k)=da i l:=by
 apply aeV;intro n;rw[jK,jK,ad7];by_cases e:j=n
 ·subst e;rw[if_pos rfl,if_pos hj,adA hj];simp[hk]
 ·rw[if_neg e]
def dN(k:Kept):Option Item:=if k.fate=1∧0<k.move.timeout then some ⟨k.move.born+k.move.timeout,k.move.af,k.move.id⟩ else none
abbrev DQ(l:List aS):=idxOf (fun x:aS=>x.id) l
abbrev BL(l:List Kept):=idxOf (fun x:Kept=>x.move.id) l
def dz(b:ax):C:=⟨b.ag,b.kept,DQ b.ag,BL b.kept,da 0 b.kept,b.kept.filterMap dN,b.clock,b.af⟩
def nY{k:Kept}{x:Item}(h:dN k=some x):x.af=k.move.af∧x.id=k.move.id∧x.due=k.move.born+k.move.timeout∧k.fate=1∧0<k.move.timeout:=by
 unfold dN at h;split at h
 ·rename_i hc;cases h;exact⟨rfl,rfl,rfl,hc⟩
 ·cases h
section
variable {b:ax}
def Good.tD(h:Good b):oY (da 0 b.kept):=by
 unfold oY;rw[aeG];intro i j hi hj GZ;have qA:i<b.kept.length:=by simpa [jJ] using hi
 have GY:j<b.kept.length:=by simpa [jJ] using hj
 have e1:=jK 0 b.kept i;have e2:=jK 0 b.kept j;rw[adA hi,adA qA] at e1;rw[adA hj,adA GY] at e2;have e1:=adU.inj e1;have e2:=adU.inj e2;rw[e1,e2];exact aeG.1 h.rising i j qA GY GZ
def wI(b:ax):(b.kept.filterMap dN).length≤b.kept.length:=List.length_filterMap_le _ _
def Good.J3(h:Good b){i j:Nat}(hi:i<b.kept.length)(hj:j<b.kept.length)(he:b.kept[i].move.af=b.kept[j].move.af):i=j:=by
 rcases Nat.lt_trichotomy i j with h1|h1|h1
 ·have:=aeG.1 h.rising i j hi hj h1;omega
 ·exact h1
 ·have:=aeG.1 h.rising j i hj hi h1;omega
def Good.NH(h:Good b){i:Nat}(hi:i<b.kept.length){k:Kept}(hk:dN k=none){x:Item}(hx:dN b.kept[i]=some x):
 (x::(b.kept.set i k).filterMap dN).Perm (b.kept.filterMap dN)∧∀y∈(b.kept.set i k).filterMap dN,y.af≠x.af:=by
 constructor
 ·have key:∀(l:List Kept)(i:Nat)(hi:i<l.length),dN l[i]=some x→(x::(l.set i k).filterMap dN).Perm (l.filterMap dN):=by
   intro l
   induction l with
   |nil=>intro i hi;simp at hi
   |cons a l ih=>
    intro i hi hx;cases i with
    |zero=>
     simp only[List.set_cons_zero,List.getElem_cons_zero] at hx⊢;rw[List.filterMap_cons_none hk,List.filterMap_cons_some hx]
    |succ i=>
     simp only[aeP,List.getElem_cons_succ] at hx⊢;have:=ih i (by simpa using hi) hx;cases ha:dN a with
     |none=>rw[List.filterMap_cons_none ha,List.filterMap_cons_none ha];exact this
     |some y=>rw[List.filterMap_cons_some ha,List.filterMap_cons_some ha];exact(ad2.swap _ _ _).trans (this.cons y)
  exact key _ i hi hx
 ·intro y hy he;obtain⟨a,ha,hay⟩:=List.mem_filterMap.1 hy;obtain⟨j,hj⟩:=aeT ha;rw[ad7] at hj;by_cases e:i=j
  ·subst e;rw[if_pos rfl,if_pos hi] at hj;cases hj;rw[hk] at hay;cases hay
  ·rw[if_neg e] at hj;have Nl:=(adC.1 hj).1;have s1:=(nY hay).1;have s2:=(nY hx).1;have Ub:b.kept[j]=a:=by rw[adA Nl] at hj;exact adU.inj hj
   exact e (h.J3 hi Nl (by rw[Ub];omega))
def Cb{l:List Kept}{i:Nat}(hi:i<l.length){k:Kept}(hk:dN k=none)(hx:dN l[i]=none):(l.set i k).filterMap dN=l.filterMap dN:=by
 induction l generalizing i with
 |nil=>simp at hi
 |cons a l ih=>
  cases i with
  |zero=>simp only[List.set_cons_zero,List.getElem_cons_zero] at hx⊢;rw[List.filterMap_cons_none hk,List.filterMap_cons_none hx]
  |succ i=>
   simp only[aeP,List.getElem_cons_succ] at hx⊢;rw[List.filterMap_cons,List.filterMap_cons,ih (by simpa using hi) hx]
end
def Ext(c:C)(hs:List C)(c':C)(dh:List C)(n:Nat):Prop:=∃TC,dh=TC++hs∧(c'::TC).getLast?=some c∧TC.length≤n
def Ext.refl(c:C)(hs:List C)(n:Nat):Ext c hs c hs n:=⟨[],rfl,rfl,adK _⟩
def Ext.trans{c c' c'':C}{hs dh tf:List C}{n m:Nat}(h1:Ext c hs c' dh n)(h2:Ext c' dh c'' tf m):Ext c hs c'' tf (n+m):=by
 obtain⟨m1,rfl,h3,h4⟩:=h1;obtain⟨m2,rfl,h5,h6⟩:=h2;refine⟨m2++m1,by simp,?_,by simp;omega⟩;cases m1 with
 |nil=>simp at h3;subst h3;simpa using h5
 |cons a m1=>
  rw[List.getLast?_cons_cons] at h3;rw[←aeN,List.getLast?_append,h3];rfl
def Ext.mono{c c':C}{hs dh:List C}{n m:Nat}(h:Ext c hs c' dh n)(hm:n≤m):Ext c hs c' dh m:=by
 obtain⟨m1,h1,h3,h4⟩:=h;exact⟨m1,h1,h3,by omega⟩
def Ext.len{c c':C}{hs dh:List C}{n:Nat}(h:Ext c hs c' dh n):dh.length≤hs.length+n:=by
 obtain⟨m1,rfl,h3,h4⟩:=h;simp;omega
def Ext.back{c c':C}{hs dh:List C}{n:Nat}(h:Ext c hs c' dh n):qu hs.length c' dh=(c,hs):=by
 obtain⟨m1,rfl,h3,-⟩:=h
 induction m1 generalizing c' with
 |nil=>simp at h3;subst h3;exact yK (adG _)
 |cons a m1 ih=>
  rw[List.getLast?_cons_cons] at h3;rw[aeN];unfold qu;rw[if_pos (by simp)];exact ih h3
def bn(p:Nat)(x:ax×List C):HP:=Lm (Good x.1) (cP p (dz x.1,x.2))
section
variable {W:World} {L R:LH} {K:VK} {X:WK} {p:Nat} {b:ax} {hs:List C} {f:ax×List C→LH} {id:Nat} {a old:aS}
def GP[i:Lc (bn p) L (b,hs) f](h:∀la lk ti tn vs bx R,Good b→iJ p la lk bx vs hs (dz b)→
 (∀M b' dh BK lF Y,Good b'→iJ p la lk lF BK dh (dz b')→T W (M++f (b',dh)) Y→T W (M++eY p (dW la lk ti tn BK (dz b'))::oH ak 14 la (p,(dz b').ag)::oH aM 33 lk (p,(dz b').kept)::me ti (dz b').mD::me tn (dz b').fB::rq lF::R) Y)→
 T W (eY p (dW la lk ti tn vs (dz b))::oH ak 14 la (p,(dz b).ag)::oH aM 33 lk (p,(dz b).kept)::me ti (dz b).mD::me tn (dz b).fB::rq bx::R) X):T W L X:=
 zi (P:=bn p) fun R mF w hw=>by
  obtain⟨hg,hw⟩:=hw.and;refine N1 (fun la lk ti tn vs bx hc=>h la lk ti tn vs bx R hg hc fun M b' dh BK lF Y Qz F1 hy=>?_) w hw;refine T.perm (zF (R:=M++R) F1 (T.perm ?_ aeM.symm)) (by
   have:=adJ (l₁:=M) (l₂:=[eY p (dW la lk ti tn BK (dz b')),oH ak 14 la (p,(dz b').ag),oH aM 33 lk (p,(dz b').kept),me ti (dz b').mD,me tn (dz b').fB,rq lF])|>.append_right R
   simpa using this)
  refine fun w' LD=>mF M (b',dh) Y hy w' ?_;have:=(LD.perm aeM);exact(St.and_intro Qz this).perm aeM.symm
def nd[i:Lc (bn p) L (b,hs) f](h:Good b→T W L X):T W L X:=fun w hw=>by
 obtain⟨k,hk,_⟩:=i.at_;exact h ((hw.focus hk).and).1 w hw
def BJ{f1:Core→LH}{f2:Nat×List aS→LH}{f3:(Nat→Option Int)×Nat→LH}{q:Core}[i1:Lc (eY p) L q f1][i2:Lc (oH ak 14 q.la) L (p,b.ag) f2][i3:Lc (me q.ti) L (DQ b.ag) f3](mC:b.ag.length≤32)
 (h:T W L (K (.tuple ⟨[.agg ⟨ak ((b.find id).getD zA)⟩,.bool (b.find id).isSome]⟩))):T W L (bJ (some ⟨p,0,none⟩) (nm id) K):=by
 unfold bJ
 repeat' first|apply ww|apply wm;intro _|apply wb
 refine yO (t:=q.ti) (x:=DQ b.ag) ?_;cases hi:(b.ag.findIdx? fun x=>x.id=id) with
 |none=>
  have e1:(DQ b.ag).1 id=none:=by show afd _ _=_;rw[hi];rfl
  have e2:b.find id=none:=wz (key:=fun x:aS=>x.id) hi;rw[e1];rw[e2] at h;simp only[aeg,ad9,aes,aec] at h⊢
  repeat' first|apply ww|apply wm;intro _|apply wb
  exact T.dp h
 |some n=>
  have e1:(DQ b.ag).1 id=some (n:Int):=by show afd _ _=_;rw[hi];rfl
  obtain⟨hn,hk,hf⟩:=rK (key:=fun x:aS=>x.id) hi;have e2:b.find id=some b.ag[n]:=hf;rw[e1];rw[e2] at h;simp only[aeg,ad9,aes,aec] at h⊢
  repeat' first|apply ww|apply wm;intro _|apply wb
  refine YN (l:=q.la) (x:=b.ag[n]) (adA hn) (by omega) ?_
  repeat' first|apply ww|apply wm;intro _|apply wb
  exact T.dp h
def rY[i:Lc (bn p) L (b,hs) f](h:T W L (K (.tuple ⟨[.agg ⟨ak ((b.find id).getD zA)⟩,.bool (b.find id).isSome]⟩))):T W L (bJ (some ⟨p,0,none⟩) (nm id) K):=by
 have hL:f (b,hs)=L:=i.same;refine GP (p:=p) fun la lk ti tn vs bx R hg hc mF=>?_;exact BJ (b:=b) hg.mC (mF [] b hs vs bx _ hg hc (by rw[hL];exact h))
def Er{f1:Core→LH}{f2:Nat×List Kept→LH}{f3:(Nat→Option Int)×Nat→LH}{q:Core}[i1:Lc (eY p) L q f1][i2:Lc (oH aM 33 q.lk) L (p,b.kept) f2][i3:Lc (me q.tn) L (BL b.kept) f3](mC:b.kept.length≤96)
 (h:T W L (K (.tuple ⟨[.agg ⟨aM ((b.named id).getD zK)⟩,.bool (b.named id).isSome]⟩))):T W L (dm (some ⟨p,0,none⟩) (nm id) K):=by
 unfold dm
 repeat' first|apply ww|apply wm;intro _|apply wb
 refine yO (t:=q.tn) (x:=BL b.kept) ?_;cases hi:(b.kept.findIdx? fun x=>x.move.id=id) with
 |none=>
  have e1:(BL b.kept).1 id=none:=by show afd _ _=_;rw[hi];rfl
  have e2:b.named id=none:=wz (key:=fun x:Kept=>x.move.id) hi;rw[e1];rw[e2] at h;simp only[aeg,ad9,aes,aec] at h⊢
  repeat' first|apply ww|apply wm;intro _|apply wb
  exact T.dp h
 |some n=>
  have e1:(BL b.kept).1 id=some (n:Int):=by show afd _ _=_;rw[hi];rfl
  obtain⟨hn,hk,hf⟩:=rK (key:=fun x:Kept=>x.move.id) hi;have e2:b.named id=some b.kept[n]:=hf;rw[e1];rw[e2] at h;simp only[aeg,ad9,aes,aec] at h⊢
  repeat' first|apply ww|apply wm;intro _|apply wb
  refine OB (l:=q.lk) (x:=b.kept[n]) (adA hn) (by omega) ?_
  repeat' first|apply ww|apply wm;intro _|apply wb
  exact T.dp h
def Ep[i:Lc (bn p) L (b,hs) f](h:T W L (K (.tuple ⟨[.agg ⟨aM ((b.named id).getD zK)⟩,.bool (b.named id).isSome]⟩))):T W L (dm (some ⟨p,0,none⟩) (nm id) K):=by
 have hL:f (b,hs)=L:=i.same;refine GP (p:=p) fun la lk ti tn vs bx R hg hc mF=>?_;exact Er (b:=b) hg.many (mF [] b hs vs bx _ hg hc (by rw[hL];exact h))
def Oq[i:Lc (bn p) L (b,hs) f](h:T W L (K (.bool (decide (b.kept.length<96))))):T W L (iy (some ⟨p,0,none⟩) K):=by
 have hL:f (b,hs)=L:=i.same;refine GP (p:=p) fun la lk ti tn vs bx R hg hc mF=>?_;have fin:=mF [] b hs vs bx _ hg hc (by rw[hL];exact h);unfold iy
 repeat' first|apply ww|apply wm;intro _|apply wb|with_reducible refine Ip ?_|fail
 refine T.fin fin ?_
 congr 1
 rw[decide_eq_decide];show((b.kept.length:Nat):Int)<96↔_;omega
def IS[i:Lc (bn p) L (b,hs) f](h:T W L (K (.i (hs.length:Int)))):T W L (dk (some ⟨p,0,none⟩) K):=by
 have hL:f (b,hs)=L:=i.same;refine GP (p:=p) fun la lk ti tn vs bx R hg hc mF=>?_;have fin:=mF [] b hs vs bx _ hg hc (by rw[hL];exact h);unfold dk;refine tz ?_;refine yS ?_;refine Vb (p:=p) ?_
 repeat' first|apply ww|apply wm;intro _|apply wb
 have:(dW la lk ti tn vs (dz b)).vs.length=hs.length:=by show vs.reverse.length=_;rw[aew,hc.len]
 rw[this];exact fin
def EP(hg:Good b){n:Nat}(hn:n<b.ag.length)(hk:b.ag[n].id=a.id):dz (b.aF a)={dz b with ag:=b.ag.set n {a with af:=b.ag[n].af}}:=by
 have e:(b.aF a).ag=b.ag.set n {a with af:=b.ag[n].af}:=by
  show(b.ag.map fun x=>if x.id=a.id then{a with af:=x.af} else x)=_;have:=map_set (key:=fun x:aS=>x.id) hg.ids hn fun x=>{a with af:=x.af};simp only[hk] at this;exact this
 unfold dz;have e9:DQ (b.ag.set n {a with af:=b.ag[n].af})=DQ b.ag:=Jm hn hk.symm;rw[e,e9]
 rfl
def Good.aF(hg:Good b){n:Nat}(hn:n<b.ag.length)(hk:b.ag[n].id=a.id)(ha:AG {a with af:=b.ag[n].af}):Good (b.aF a):=by
 have e:(b.aF a).ag=b.ag.set n {a with af:=b.ag[n].af}:=congrArg C.ag (EP hg hn hk);have aaU:(b.aF a).ag.map (·.id)=b.ag.map (·.id):=by
  rw[e,List.map_set];refine List.ext_getElem (by simp) fun i h1 h2=>?_;rw[List.getElem_set];split
  ·rename_i he;subst he;simp[hk]
  ·rfl
 refine⟨by rw[aaU];exact hg.ids,hg.names,by rw[e,aeF];exact hg.mC,hg.many,?_,hg.LB,hg.rising,hg.stamps,hg.clock,?_⟩
 ·rw[e];intro x hx;rcases aeq hx with hx|hx
  ·exact hg.LW x hx
  ·subst hx;exact ha
 ·rw[e,aeF];exact hg.af
def Ei[i:Lc (bn p) L (b,hs) f](hf:b.find a.id=some old)(ha:AG {a with af:=old.af})(hl:hs.length<900000)
 (h:∀dh,Ext (dz b) hs (dz (b.aF a)) dh 1→T W (f (b.aF a,dh)) (K (.i 0))):T W L (fE (some ⟨p,0,none⟩) (ak a) K):=by
 refine GP (p:=p) fun la lk ti tn vs bx R hg hc mF=>?_;have mC:=hg.mC;obtain⟨n,hi⟩:∃n,(b.ag.findIdx? fun x=>x.id=a.id)=some n:=by
  cases hi:(b.ag.findIdx? fun x=>x.id=a.id) with
  |none=>rw[show b.find a.id=none from wz (key:=fun x:aS=>x.id) hi] at hf;cases hf
  |some n=>exact⟨n,rfl⟩
 obtain⟨hn,hk,VF⟩:=rK (key:=fun x:aS=>x.id) hi;have e2:b.find a.id=some b.ag[n]:=VF;rw[hf] at e2;have e3:=adU.inj e2;subst e3;have e1:(DQ b.ag).1 a.id=some (n:Int):=by show afd _ _=_;rw[hi];rfl
 have B7:=EP hg hn hk;have Jn:(dW la lk ti tn vs (dz b)).vs.length<1000000:=by show vs.reverse.length<_;rw[aew,hc.len];omega
 unfold fE
 repeat' first|apply ww|apply wm;intro _|apply wb
 refine BJ (b:=b) hg.mC ?_;rw[hf];simp only[ad9,aec]
 repeat' first|apply ww|apply wm;intro _|apply wb
 refine yO (t:=ti) (x:=(dz b).mD) ?_;rw[show(dz b).mD.1 a.id=some (n:Int) from e1];simp only[ad9,aec]
 repeat' first|apply ww|apply wm;intro _|apply wb
 refine Vj (l:=la) (y:=b.ag[n]) (adA hn) (show b.ag.length<_ by omega) Jn fun r4 r1 r2=>?_
 repeat' first|apply ww|apply wm;intro _|apply wb
 refine cQ (cQ (cQ (cQ (cQ ?_))));have DY:∀lF,(∀x∈bx,x∈lF)→(r4,ak b.ag[n])∈lF→(r1,[.pointer (some (ad la 0))])∈lF→(r2,[.int .i64 (n:Int)])∈lF→iJ p la lk lF (zD r4 r1 r2::vs) (dz b::hs) (dz (b.aF a)):=by
  intro lF uI m1 m2 m3;refine⟨?_,hc.mono uI⟩;have:=yP.PA (p:=p) (la:=la) (lk:=lk) (c:=dz (b.aF a)) m1 m2 m3 (by rw[B7];simpa using hn);have ee:{dz (b.aF a) with ag:=(dz (b.aF a)).ag.set n b.ag[n]}=dz b:=by
   rw[B7];simp only[aeO,List.set_getElem_self]
   rfl
  rw[ee] at this;exact this
 have fin:=fun lF c1=>mF [] (b.aF a) (dz b::hs) (zD r4 r1 r2::vs) lF _ (hg.aF hn hk ha) c1 (h _ ⟨[dz b],rfl,rfl,adG _⟩);rw[B7] at fin;simp only[dW,ae6] at fin;exact fin _ (B7▸DY _ (fun x hx=>by simp[hx]) (by simp) (by simp) (by simp))
end
section
variable {W:World} {L R:LH} {K:VK} {X:WK} {p:Nat} {b:ax} {hs:List C} {f:ax×List C→LH} {id:Nat} {a old:aS}
def JU{q:Core}{f1:Core→LH}[i:Lc (eY p) L q f1](hl:q.vs.length<1000000)(hs:0≤q.af∧q.af<1000000)
 (h:∀r,T W (Sep.pt r [.p (some (ad p 0))]::f1 {q with vs:=q.vs++[vL r],af:=q.af+1}) (K (.i (q.af+1)))):T W L (ix (some ⟨p,0,none⟩) K):=by
 unfold ix
 repeat' first|apply ww|apply wm;intro _|apply wb|with_reducible refine G8 ?_|fail
 rename_i r;rw[ah (by omega)];have i2:=i.next {q with af:=q.af+1};refine rv (p:=p) (q:={q with af:=q.af+1}) hl rfl rfl ?_;have i3:=i.next {q with vs:=q.vs++[vL r],af:=q.af+1}
 repeat' first|apply ww|apply wm;intro _|apply wb
 exact h r
def ax.more(b:ax)(a:aS):ax:={b with af:=b.af+1,ag:=b.ag++[{a with af:=b.af+1}]}
def Good.more(hg:Good b)(hf:b.find a.id=none)(mC:b.ag.length<32)(ha:AG {a with af:=b.af+1}):Good (b.more a):=by
 have qz:=hg.af;have many:=hg.many;refine⟨?_,hg.names,by show(b.ag++[_]).length≤32;simp;omega,hg.many,?_,hg.LB,hg.rising,fun k hk=>⟨(hg.stamps k hk).1,by have:=(hg.stamps k hk).2;show _≤b.af+1;omega⟩,hg.clock,by show b.af+1=(((b.ag++[_]).length:Nat):Int)+(b.kept.length:Int);simp;omega⟩
 ·show((b.ag++[_]).map _).Nodup;rw[ad8];rw[List.nodup_append];refine⟨hg.ids,by simp,?_⟩;intro x hx y hy;simp at hy;subst hy;obtain⟨z,hz,rfl⟩:=aek.1 hx;have:=aeW.1 hf z hz;simpa using this
 ·intro x hx;rcases aee.1 hx with hx|hx
  ·exact hg.LW x hx
  ·simp at hx;subst hx;exact ha
def TB(hf:b.find a.id=none):dz (b.more a)={dz b with af:=b.af+1,mD:=(rZ (dz b).mD.1 a.id (some (b.ag.length:Int)),(dz b).mD.2+1),ag:=b.ag++[{a with af:=b.af+1}]}:=by
 have e9:DQ (b.ag++[{a with af:=b.af+1}])=(rZ (DQ b.ag).1 a.id (some (b.ag.length:Int)),(DQ b.ag).2+1):=wy (key:=fun x:aS=>x.id) (x:={a with af:=b.af+1}) hf;unfold dz ax.more;dsimp only;rw[e9]
def EM{m:Nat→Option Int}{k:Nat}{v:Int}{n:Nat}(h:m k=none):(rZ (rZ m k (some v)) k none,n+1-1)=(m,n):=by
 refine Prod.ext ?_ rfl
 funext j
 dsimp only[rZ];by_cases e:j=k
 ·subst e;rw[if_pos rfl,h]
 ·rw[if_neg e,if_neg e]
def PD[i:Lc (bn p) L (b,hs) f](hf:b.find a.id=none)(mC:b.ag.length<32)(ha:AG {a with af:=b.af+1})(hl:hs.length<900000)
 (h:∀dh,Ext (dz b) hs (dz (b.more a)) dh 3→T W (f (b.more a,dh)) (K (.i 0))):T W L (gK (some ⟨p,0,none⟩) (ak a) K):=by
 refine GP (p:=p) fun la lk ti tn vs bx R hg hc mF=>?_;have qz:=hg.af;have many:=hg.many;have lK:(DQ b.ag).1 a.id=none:=by show afd _ _=_;rw[nr (key:=fun x:aS=>x.id) hf];rfl
 have Jn:vs.reverse.length<900000:=by rw[aew,hc.len];omega
 unfold gK
 repeat' first|apply ww|apply wm;intro _|apply wb
 refine Iw (l:=la) ?_
 repeat' first|apply ww|apply wm;intro _|apply wb
 refine fx (by show decide (((b.ag.length:Nat):Int)≥32)=false;simp;omega) ?_
 repeat' first|apply ww|apply wm;intro _|apply wb
 refine yO (t:=ti) (x:=(dz b).mD) ?_;rw[show(dz b).mD.1 a.id=none from lK];simp only[aeg,aes]
 repeat' first|apply ww|apply wm;intro _|apply wb
 refine JU (p:=p) (q:=dW la lk ti tn vs (dz b)) (by show vs.reverse.length<_;omega) (by show 0≤b.af∧b.af<_;omega) fun r3=>?_
 repeat' first|apply ww|apply wm;intro _|apply wb
 refine Iw (l:=la) ?_
 repeat' first|apply ww|apply wm;intro _|apply wb
 refine JT (t:=ti) (x:=(dz b).mD) (show b.ag.length≤1000 by omega) lK ?_
 repeat' first|apply ww|apply wm;intro _|apply wb
 refine rv (p:=p) (by show(vs.reverse++[_]).length<_;simp at Jn⊢;omega) rfl rfl ?_
 repeat' first|apply ww|apply wm;intro _|apply wb
 refine OL (l:=la) (x:={a with af:=b.af+1}) (show b.ag.length<_ by omega) (by show((vs.reverse++[_])++[_]).length<_;simp at Jn⊢;omega) fun r4 r5=>?_
 repeat' first|apply ww|apply wm;intro _|apply wb
 rename_i r1 r2;refine cQ (cQ (cQ (cQ (cQ ?_))));have B7:=TB (a:=a) hf;have DY:∀lF,(∀x∈bx,x∈lF)→(r1,[.p (some (ad p 0))])∈lF→(r2,ak {a with af:=b.af+1})∈lF→(r3,[.p (some (ad p 0))])∈lF→(r4,[.p (some (ad la 0))])∈lF→(r5,[.i (b.ag.length:Int)])∈lF→
  iJ p la lk lF (wO r4 r5::L9 r1 r2::vL r3::vs) ({dz b with af:=b.af+1,mD:=(rZ (dz b).mD.1 a.id (some (b.ag.length:Int)),(dz b).mD.2+1)}::{dz b with af:=b.af+1}::dz b::hs) (dz (b.more a)):=by
  intro lF uI m1 m2 m3 m4 m5;refine⟨?_,?_,?_,hc.mono uI⟩
  ·have:=yP.Rl (p:=p) (la:=la) (lk:=lk) (c:=dz (b.more a)) m4 m5 (by show b.ag.length≤(b.ag++[_]).length;simp);have ee:{dz (b.more a) with ag:=(dz (b.more a)).ag.take b.ag.length}={dz b with af:=b.af+1,mD:=(rZ (dz b).mD.1 a.id (some (b.ag.length:Int)),(dz b).mD.2+1)}:=by
    rw[B7];dsimp only;rw[List.take_left];rfl
   rw[ee] at this;exact this
  ·have:=yP.open_ (p:=p) (la:=la) (lk:=lk) (c:={dz b with af:=b.af+1,mD:=(rZ (dz b).mD.1 a.id (some (b.ag.length:Int)),(dz b).mD.2+1)}) (x:={a with af:=b.af+1}) m1 m2 (show b.ag.length+1≤1000 by omega) (by show(rZ _ _ _ _).isSome=true;unfold rZ;rw[if_pos rfl];rfl) (EM (show(dz b).mD.1 a.id=none from lK));exact this
  ·exact yP.next (c:={dz b with af:=b.af+1}) m3 (by show adx.wrap (b.af+1-1)=b.af;rw[ah (by omega)];omega)
 have fin:=fun lF c1=>mF [] (b.more a) _ (wO r4 r5::L9 r1 r2::vL r3::vs) lF _ (hg.more hf mC ha) c1 (h _ ⟨[{dz b with af:=b.af+1,mD:=(rZ (dz b).mD.1 a.id (some (b.ag.length:Int)),(dz b).mD.2+1)},{dz b with af:=b.af+1},dz b],rfl,rfl,adG _⟩);rw[B7] at fin;simp only[dW,ae6] at fin;exact fin _ (B7▸DY _ (fun x hx=>by simp[hx]) (by repeat (first|exact aep.head _|apply aep.tail)) (by repeat (first|exact aep.head _|apply aep.tail)) (by repeat (first|exact aep.head _|apply aep.tail)) (by repeat (first|exact aep.head _|apply aep.tail)) (by repeat (first|exact aep.head _|apply aep.tail)))
end
section
variable {W:World} {L R:LH} {K:VK} {X:WK} {p:Nat} {b:ax} {hs:List C} {f:ax×List C→LH} {id:Nat} {k:Kept} {asked t:Move} {fate:Int}
instance{x1 x2 x3 x4:Value}{x y:Int}{n:Nat}:Wr [x1,x2,x3,x4] 0 ([.i x,.i y]++(nm n++[])) (eB ⟨x,y,n⟩):=⟨by simp[over,eB,nm],by simp[nm],fun v h=>mV ⟨x,y,n⟩ v (by simpa [eB] using h)⟩
def T.H3{la lk ti tn:Nat}{vs:LV}{st:List ln}{e e':List Item}{x y:Int}(he:e.Perm e')(h:T W (eY p ⟨la,lk,ti,tn,vs,st,e',x,y⟩::R) X):T W (eY p ⟨la,lk,ti,tn,vs,st,e,x,y⟩::R) X:=T.Dc (q:=⟨la,lk,ti,tn,vs,st,e,x,y⟩) he h
def HZ(k:Kept):Item:=⟨k.move.born+k.move.timeout,k.move.af,k.move.id⟩
def NQ(hk:KG k)(h:T W L (K (.tuple ⟨[.agg ⟨eB (HZ k)⟩,.bool (dN k).isSome]⟩))):T W L (mZ (aM k) K):=by
 have h1:=hk.timeout;have h2:=hk.born;unfold mZ
 repeat' first|apply ww|apply wm;intro _|apply wb
 rw[ah (by omega)];have hd:(dN k).isSome=decide (k.fate=1∧0<k.move.timeout):=by
  unfold dN;split
  ·rename_i hc;simp[hc]
  ·rename_i hc;simp[hc]
 rw[hd] at h;refine az (fun g=>?_) (fun g=>?_)
 ·have g:k.fate=1:=by simpa using g
  repeat' first|apply ww|apply wm;intro _|apply wb
  refine T.fin (by exact T.dp h) ?_
  congr 3
  simp[g]
 ·have g: ¬k.fate=1:=by simpa using g
  repeat' first|apply ww|apply wm;intro _|apply wb
  refine T.fin (by exact T.dp h) ?_
  congr 3
  simp[g]
def Good.kY(hg:Good b)(hf:b.named t.id=none)(many:b.kept.length<96)(hk:KG ⟨asked,{t with af:=b.af+1,born:=b.clock},fate⟩):Good (b.kY asked t fate):=by
 have qz:=hg.af;refine⟨hg.ids,?_,hg.mC,by show(b.kept++[_]).length≤96;simp;omega,hg.LW,?_,?_,?_,hg.clock,by show b.af+1=_+(((b.kept++[_]).length:Nat):Int);simp;show _=(b.ag.length:Int)+_;omega⟩
 ·show((b.kept++[_]).map _).Nodup;rw[ad8,List.nodup_append];refine⟨hg.names,by simp,?_⟩;intro x hx y hy;simp at hy;subst hy;obtain⟨z,hz,rfl⟩:=aek.1 hx;have:=aeW.1 hf z hz;simpa using this
 ·intro x hx;rcases aee.1 hx with hx|hx
  ·exact hg.LB x hx
  ·simp at hx;subst hx;exact hk
 ·show(b.kept++[_]).Pairwise _;rw[List.pairwise_append];refine⟨hg.rising,by simp,fun x hx y hy=>?_⟩;simp at hy;subst hy;have:=(hg.stamps x hx).2;show _<b.af+1;omega
 ·intro x hx;rcases aee.1 hx with hx|hx
  ·have:=hg.stamps x hx;show _∧_≤b.af+1;omega
  ·simp at hx;subst hx;show 1≤b.af+1∧b.af+1≤b.af+1;omega
abbrev pv(b:ax)(asked t:Move)(fate:Int):Kept:=⟨asked,{t with af:=b.af+1,born:=b.clock},fate⟩
def TE(hf:b.named t.id=none):dz (b.kY asked t fate)={dz b with af:=b.af+1,kept:=b.kept++[pv b asked t fate],fB:=(rZ (dz b).fB.1 t.id (some (b.kept.length:Int)),(dz b).fB.2+1),stamps:=(dz b).stamps++[(b.af+1,(b.kept.length:Int))],ends:=(dz b).ends++(dN (pv b asked t fate)).toList}:=by
 have e9:BL (b.kept++[pv b asked t fate])=(rZ (BL b.kept).1 t.id (some (b.kept.length:Int)),(BL b.kept).2+1):=wy (key:=fun x:Kept=>x.move.id) (x:=pv b asked t fate) hf;unfold dz ax.kY;dsimp only;rw[e9,q9,List.filterMap_append,adE]
 congr 1
def IT{waits:Bool}[i:Lc (bn p) L (b,hs) f](hf:b.named t.id=none)(many:b.kept.length<96)(hk:KG (pv b asked t fate))(hw:fate=if waits then 1 else 0)(hl:hs.length<900000)
 (h:∀dh,Ext (dz b) hs (dz (b.kY asked t fate)) dh 4→T W (f (b.kY asked t fate,dh)) (K (.i 0))):T W L (dv (some ⟨p,0,none⟩) (ai asked) (ai t) waits K):=by
 refine GP (p:=p) fun la lk ti tn vs bx R hg hc mF=>?_;have qz:=hg.af;have mC:=hg.mC;have lK:(BL b.kept).1 t.id=none:=by show afd _ _=_;rw[nr (key:=fun x:Kept=>x.move.id) hf];rfl
 have Jn:vs.reverse.length<900000:=by rw[aew,hc.len];omega
 unfold dv
 repeat' first|apply ww|apply wm;intro _|apply wb
 refine Ip (l:=lk) ?_
 repeat' first|apply ww|apply wm;intro _|apply wb
 refine fx (by show decide (((b.kept.length:Nat):Int)≥96)=false;simp;omega) ?_
 repeat' first|apply ww|apply wm;intro _|apply wb
 refine yO (t:=tn) (x:=(dz b).fB) ?_;rw[show(dz b).fB.1 t.id=none from lK];simp only[aeg,aes]
 repeat' first|apply ww|apply wm;intro _|apply wb
 rename_i r1 r2 r3 r4;have main:T W (Sep.pt r4 (aM ⟨asked,t,fate⟩)::Sep.pt r3 (ai t)::Sep.pt r2 (ai asked)::Sep.pt r1 [.pointer (some (ad p 0))]::eY p (dW la lk ti tn vs (dz b))::oH ak 14 la (p,(dz b).ag)::oH aM 33 lk (p,(dz b).kept)::me ti (dz b).mD::me tn (dz b).fB::rq bx::R) (dv.j1 K r1 r4 r3):=by
  unfold dv.j1
  repeat' first|apply ww|apply wm;intro _|apply wb
  refine JU (p:=p) (q:=dW la lk ti tn vs (dz b)) (by show vs.reverse.length<_;omega) (by show 0≤b.af∧b.af<_;omega) fun r5=>?_
  repeat' first|apply ww|apply wm;intro _|apply wb
  refine OD (l:=lk) (x:=pv b asked t fate) (show b.kept.length<_ by omega) (by show(vs.reverse++[_]).length<_;simp at Jn⊢;omega) fun r6 r7=>?_
  repeat' first|apply ww|apply wm;intro _|apply wb
  refine JT (t:=tn) (x:=(dz b).fB) (show b.kept.length≤1000 by omega) lK ?_
  repeat' first|apply ww|apply wm;intro _|apply wb
  refine JD (p:=p) hg.tD (by show(da 0 b.kept).length<_;rw[jJ];omega) (fun x hx=>by
   obtain⟨k,hk,e⟩:=vO hx
   have:=(hg.stamps k hk).2
   show x.1<b.af+1
   omega) ?_
  repeat' first|apply ww|apply wm;intro _|apply wb
  refine rv (p:=p) (by show((vs.reverse++[_])++[_]).length<_;simp at Jn⊢;omega) rfl rfl ?_
  repeat' first|apply ww|apply wm;intro _|apply wb
  refine NQ (k:=pv b asked t fate) hk ?_
  repeat' first|apply ww|apply wm;intro _|apply wb
  rename_i r8;have B7:=TE (asked:=asked) (fate:=fate) hf;have DY:∀lF,(∀x∈bx,x∈lF)→(r1,[.p (some (ad p 0))])∈lF→(r3,ai t)∈lF→(r4,aM (pv b asked t fate))∈lF→(r5,[.p (some (ad p 0))])∈lF→(r6,[.p (some (ad lk 0))])∈lF→(r7,[.i (b.kept.length:Int)])∈lF→
   iJ p la lk lF (zV r1 r3 r4::qU r6 r7::vL r5::vs) ({dz b with af:=b.af+1,kept:=b.kept++[pv b asked t fate]}::{dz b with af:=b.af+1}::dz b::hs)
    {dz b with af:=b.af+1,kept:=b.kept++[pv b asked t fate],fB:=(rZ (dz b).fB.1 t.id (some (b.kept.length:Int)),(dz b).fB.2+1),stamps:=(dz b).stamps++[(b.af+1,(b.kept.length:Int))]}:=by
   intro lF uI m1 m2 m3 m4 m5 m6;refine⟨?_,?_,?_,hc.mono uI⟩
   ·exact yP.Jj (p:=p) (la:=la) (lk:=lk) (c:={dz b with af:=b.af+1,kept:=b.kept++[pv b asked t fate],fB:=(rZ (dz b).fB.1 t.id (some (b.kept.length:Int)),(dz b).fB.2+1),stamps:=(dz b).stamps++[(b.af+1,(b.kept.length:Int))]}) (t:=t) (k:=pv b asked t fate) (l0:=(dz b).stamps) m1 m2 m3 (show b.kept.length+1≤1000 by omega) (by show(rZ _ _ _ _).isSome=true;unfold rZ;rw[if_pos rfl];rfl)
     (by have:=(hg.kY hf many hk).tD
         have e:da 0 (b.kY asked t fate).kept=(dz b).stamps++[(b.af+1,(b.kept.length:Int))]:=congrArg C.stamps B7
         rw[e] at this;exact this)
     (by show(da 0 b.kept++[_]).length<_;rw[adD,jJ];simp;omega) rfl (EM (show(dz b).fB.1 t.id=none from lK))
   ·have:=yP.Rk (p:=p) (la:=la) (lk:=lk) (c:={dz b with af:=b.af+1,kept:=b.kept++[pv b asked t fate]}) m5 m6 (by show b.kept.length≤(b.kept++[_]).length;simp);have ee:({({dz b with af:=b.af+1,kept:=b.kept++[pv b asked t fate]}:C) with kept:=(b.kept++[pv b asked t fate]).take b.kept.length}:C)={dz b with af:=b.af+1}:=by rw[List.take_left];rfl
    rw[ee] at this;exact this
   ·exact yP.next (c:={dz b with af:=b.af+1}) m4 (by show adx.wrap (b.af+1-1)=b.af;rw[ah (by omega)];omega)
  cases hd:dN (pv b asked t fate) with
  |none=>
   simp only[aeg]
   repeat' first|apply ww|apply wm;intro _|apply wb
   refine cQ (cQ (cQ (cQ (cQ (cQ (cQ (cQ ?_)))))));rw[hd] at B7;simp only[Option.toList_none,adV] at B7;have fin:=fun lF c1=>mF [] (b.kY asked t fate) _ (zV r1 r3 r4::qU r6 r7::vL r5::vs) lF _ (hg.kY hf many hk) c1 (h _ ⟨[{dz b with af:=b.af+1,kept:=b.kept++[pv b asked t fate]},{dz b with af:=b.af+1},dz b],rfl,rfl,by simp⟩);rw[B7] at fin;simp only[dW,ae6] at fin;exact fin _ (DY _ (fun x hx=>by simp[hx]) (by repeat (first|exact aep.head _|apply aep.tail)) (by repeat (first|exact aep.head _|apply aep.tail)) (by repeat (first|exact aep.head _|apply aep.tail)) (by repeat (first|exact aep.head _|apply aep.tail)) (by repeat (first|exact aep.head _|apply aep.tail)) (by repeat (first|exact aep.head _|apply aep.tail)))
  |some x=>
   have ex:HZ (pv b asked t fate)=x:=by
    unfold dN at hd;split at hd
    ·cases hd;rfl
    ·cases hd
   simp only[ad9]
   repeat' first|apply ww|apply wm;intro _|apply wb
   simp only[ft,adE];rw[ex];refine Ee (p:=p) (e':=(dz b).ends++[x]) (by have:=wI b;show(b.kept.filterMap dN).length<_;omega) (ad2.refl _) ?_
   repeat' first|apply ww|apply wm;intro _|apply wb
   refine rv (p:=p) (by show(((vs.reverse++[_])++[_])++[_]).length<_;simp at Jn⊢;omega) rfl rfl ?_
   repeat' first|apply ww|apply wm;intro _|apply wb
   refine cQ (cQ (cQ (cQ (cQ (cQ (cQ (cQ ?_)))))));rw[hd] at B7;simp only[Option.toList_some] at B7;have hsx:=(nY hd).1;have Ns:∀lF,(∀x∈bx,x∈lF)→(r1,[.p (some (ad p 0))])∈lF→(r3,ai t)∈lF→(r4,aM (pv b asked t fate))∈lF→(r5,[.p (some (ad p 0))])∈lF→(r6,[.p (some (ad lk 0))])∈lF→(r7,[.i (b.kept.length:Int)])∈lF→(r8,eB x)∈lF→
                                                      iJ p la lk lF (G6 r1 r8::zV r1 r3 r4::qU r6 r7::vL r5::vs) ({dz b with af:=b.af+1,kept:=b.kept++[pv b asked t fate],fB:=(rZ (dz b).fB.1 t.id (some (b.kept.length:Int)),(dz b).fB.2+1),stamps:=(dz b).stamps++[(b.af+1,(b.kept.length:Int))]}::{dz b with af:=b.af+1,kept:=b.kept++[pv b asked t fate]}::{dz b with af:=b.af+1}::dz b::hs)
                                                       (dz (b.kY asked t fate)):=by
    intro lF uI m1 m2 m3 m4 m5 m6 m7;refine⟨?_,DY lF uI m1 m2 m3 m4 m5 m6⟩;rw[B7];exact yP.Ji (p:=p) (la:=la) (lk:=lk) (c:={dz b with af:=b.af+1,kept:=b.kept++[pv b asked t fate],fB:=(rZ (dz b).fB.1 t.id (some (b.kept.length:Int)),(dz b).fB.2+1),stamps:=(dz b).stamps++[(b.af+1,(b.kept.length:Int))],ends:=(dz b).ends++[x]}) (e':=(dz b).ends) m1 m7
     (by have:=wI b;show(b.kept.filterMap dN++[x]).length<_;simp;omega) (adJ (l₁:=[x])) (fun y hy=>by
      obtain⟨k,hk,e⟩:=List.mem_filterMap.1 hy
      have h1:=(nY e).1
      have h2:=(hg.stamps k hk).2
      rw[hsx]
      show y.af≠b.af+1
      omega)
   have fin:=fun lF c1=>mF [] (b.kY asked t fate) _ (G6 r1 r8::zV r1 r3 r4::qU r6 r7::vL r5::vs) lF _ (hg.kY hf many hk) c1 (h _ ⟨[{dz b with af:=b.af+1,kept:=b.kept++[pv b asked t fate],fB:=(rZ (dz b).fB.1 t.id (some (b.kept.length:Int)),(dz b).fB.2+1),stamps:=(dz b).stamps++[(b.af+1,(b.kept.length:Int))]},{dz b with af:=b.af+1,kept:=b.kept++[pv b asked t fate]},{dz b with af:=b.af+1},dz b],rfl,rfl,by simp⟩);rw[B7] at fin Ns;simp only[dW,ae6] at fin;exact fin _ (Ns _ (fun x hx=>by simp[hx]) (by repeat (first|exact aep.head _|apply aep.tail)) (by repeat (first|exact aep.head _|apply aep.tail)) (by repeat (first|exact aep.head _|apply aep.tail)) (by repeat (first|exact aep.head _|apply aep.tail)) (by repeat (first|exact aep.head _|apply aep.tail)) (by repeat (first|exact aep.head _|apply aep.tail)) (by repeat (first|exact aep.head _|apply aep.tail)))
 refine az (fun g=>?_) (fun g=>?_)
 ·rw[g] at hw
  repeat' first|apply ww|apply wm;intro _|apply wb
  rw[if_pos rfl] at hw;rw[hw] at main;exact main
 ·rw[g,if_neg (by decide)] at hw;rw[hw] at main;exact main
def NC(hg:Good b){n:Nat}(hn:n<b.kept.length)(h1:b.kept[n].fate=1)(zv:fate=2∨fate=3∨fate=4):dz (b.fate b.kept[n].move.id fate)={dz b with kept:=b.kept.set n {b.kept[n] with fate:=fate},ends:=(b.kept.set n {b.kept[n] with fate:=fate}).filterMap dN}:=by
 have e:(b.fate b.kept[n].move.id fate).kept=b.kept.set n {b.kept[n] with fate:=fate}:=by
  show(b.kept.map fun k=>if k.move.id=b.kept[n].move.id∧k.fate=1 then{k with fate:=fate} else k)=_;have:=map_set (key:=fun x:Kept=>x.move.id) hg.names hn fun k=>if k.fate=1 then{k with fate:=fate} else k
  rw[if_pos h1] at this;rw[←this];apply aeR;intro k hk;by_cases e1:k.move.id=b.kept[n].move.id<;>by_cases e2:k.fate=1<;>simp[e1,e2]
 have e9:BL (b.kept.set n {b.kept[n] with fate:=fate})=BL b.kept:=Jm (key:=fun x:Kept=>x.move.id) hn rfl;unfold dz;rw[e,e9,Dv (k:={b.kept[n] with fate:=fate}) 0 hn rfl]
 rfl
def Good.XM(hg:Good b){n:Nat}(hn:n<b.kept.length)(h1:b.kept[n].fate=1)(zv:fate=2∨fate=3∨fate=4):Good (b.fate b.kept[n].move.id fate):=by
 have e:(b.fate b.kept[n].move.id fate).kept=b.kept.set n {b.kept[n] with fate:=fate}:=congrArg C.kept (NC hg hn h1 zv);have em:∀{β:Type}(g:Kept→β),(∀k:Kept,g {k with fate:=fate}=g k)→(b.fate b.kept[n].move.id fate).kept.map g=b.kept.map g:=by
  intro β g hgg;rw[e,List.map_set];refine List.ext_getElem (by simp) fun i h1 h2=>?_;rw[List.getElem_set];split
  ·rename_i he;subst he;simp[hgg]
  ·rfl
 have hk:=hg.LB _ (adZ hn);refine⟨hg.ids,by rw[em (fun x=>x.move.id) fun _=>rfl];exact hg.names,hg.mC,by rw[e,aeF];exact hg.many,hg.LW,?_,?_,?_,hg.clock,by rw[e,aeF];exact hg.af⟩
 ·rw[e];intro x hx;rcases aeq hx with hx|hx
  ·exact hg.LB x hx
  ·subst hx;exact⟨hk.asked,hk.move,hk.Ij,hk.I9,hk.qv,hk.rG,by show 0≤fate∧fate≤4;omega,hk.timeout,hk.born⟩
 ·have h2:=hg.rising;have:((b.fate b.kept[n].move.id fate).kept.map fun x=>x.move.af).Pairwise (·<·):=by
   rw[em (fun x=>x.move.af) fun _=>rfl];exact List.pairwise_map.2 h2
  exact List.pairwise_map.1 this
 ·rw[e];intro x hx;rcases aeq hx with hx|hx
  ·exact hg.stamps x hx
  ·subst hx;exact hg.stamps b.kept[n] (adZ hn)
def Ti[i:Lc (bn p) L (b,hs) f](hn:b.named id=some k)(h1:k.fate=1)(zv:fate=2∨fate=3∨fate=4)(hl:hs.length<900000)
 (h:∀dh,Ext (dz b) hs (dz (b.fate id fate)) dh 2→T W (f (b.fate id fate,dh)) (K (.i 0))):T W L (bh (some ⟨p,0,none⟩) (nm id) fate K):=by
 refine GP (p:=p) fun la lk ti tn vs bx R hg hc mF=>?_;have mC:=hg.mC;have many:=hg.many;obtain⟨n,hi⟩:∃n,(b.kept.findIdx? fun x=>x.move.id=id)=some n:=by
  cases hi:(b.kept.findIdx? fun x=>x.move.id=id) with
  |none=>rw[show b.named id=none from wz (key:=fun x:Kept=>x.move.id) hi] at hn;cases hn
  |some n=>exact⟨n,rfl⟩
 obtain⟨T5,hk,VF⟩:=rK (key:=fun x:Kept=>x.move.id) hi;have e2:b.named id=some b.kept[n]:=VF;rw[hn] at e2;have e3:=adU.inj e2;subst e3;subst hk;have e1:(BL b.kept).1 b.kept[n].move.id=some (n:Int):=by show afd _ _=_;rw[hi];rfl
 have B7:=NC hg T5 h1 zv;have Xe:=hg.LB _ (adZ T5);have Jn:vs.reverse.length<900000:=by rw[aew,hc.len];omega
 have FO:dN {b.kept[n] with fate:=fate}=none:=by unfold dN;rw[if_neg];show ¬(fate=1∧_);omega
 unfold bh
 repeat' first|apply ww|apply wm;intro _|apply wb
 refine Er (b:=b) hg.many ?_;rw[hn];simp only[ad9,aec]
 repeat' first|apply ww|apply wm;intro _|apply wb
 rename_i r1 r2 r3;unfold bh.j1;refine fx (by simpa using h1) ?_;unfold bh.j2;refine fx (by simp;omega) ?_;refine fx (by simp;omega) ?_
 repeat' first|apply ww|apply wm;intro _|apply wb
 refine NQ (k:=b.kept[n]) Xe ?_
 repeat' first|apply ww|apply wm;intro _|apply wb
 rename_i r4;have main:∀(q:Core)(tq:LV)(gN:List C)(c2:C),q=dW la lk ti tn tq c2→c2={dz b with ends:=q.ends}→q.ends.Perm ((b.kept.set n {b.kept[n] with fate:=fate}).filterMap dN)→tq.length≤vs.length+1→
  (∀lF,(∀x∈bx,x∈lF)→(r1,[.p (some (ad p 0))])∈lF→(r4,eB (HZ b.kept[n]))∈lF→iJ p la lk lF tq gN {dz b with ends:=(b.kept.set n {b.kept[n] with fate:=fate}).filterMap dN})→
  Ext (dz b) hs (dz (b.fate b.kept[n].move.id fate)) ({dz b with ends:=(b.kept.set n {b.kept[n] with fate:=fate}).filterMap dN}::gN) 2→
  T W (Sep.pt r4 (eB (HZ b.kept[n]))::Sep.pt r3 (aM b.kept[n])::Sep.pt r2 (nm b.kept[n].move.id)::Sep.pt r1 [.p (some (ad p 0))]::eY p q::oH ak 14 la (p,b.ag)::oH aM 33 lk (p,b.kept)::me ti (DQ b.ag)::me tn (BL b.kept)::rq bx::R) (bh.j4 K r1 r2 r3 fate):=by
  rintro q tq gN c2 rfl LQ hpm Z8 DY aat;unfold bh.j4;have Sb:(dW la lk ti tn tq c2).vs.length<1000000:=by show tq.reverse.length<_;rw[aew];rw[aew] at Jn;omega
  repeat' first|apply ww|apply wm;intro _|apply wb
  refine yO (t:=tn) (x:=BL b.kept) ?_;rw[e1];simp only[ad9,aec]
  repeat' first|apply ww|apply wm;intro _|apply wb
  refine Vd (l:=lk) (y:=b.kept[n]) (x:={b.kept[n] with fate:=fate}) (adA T5) (by omega) Sb fun r5 r6 r7=>?_
  repeat' first|apply ww|apply wm;intro _|apply wb
  refine cQ (cQ (cQ (cQ (cQ (cQ (cQ ?_))))));refine T.H3 (e':=(b.kept.set n {b.kept[n] with fate:=fate}).filterMap dN) hpm ?_;have fin:=fun lF(c1:iJ p la lk lF (wN r5 r6 r7::tq) ({dz b with ends:=(b.kept.set n {b.kept[n] with fate:=fate}).filterMap dN}::gN) (dz (b.fate b.kept[n].move.id fate)))=>mF [] (b.fate b.kept[n].move.id fate) _ (wN r5 r6 r7::tq) lF _ (hg.XM T5 h1 zv) c1 (h _ aat);have Ns:∀lF,(∀x∈bx,x∈lF)→(r1,[.p (some (ad p 0))])∈lF→(r4,eB (HZ b.kept[n]))∈lF→(r5,aM b.kept[n])∈lF→(r6,[.p (some (ad lk 0))])∈lF→(r7,[.i (n:Int)])∈lF→
   iJ p la lk lF (wN r5 r6 r7::tq) ({dz b with ends:=(b.kept.set n {b.kept[n] with fate:=fate}).filterMap dN}::gN) (dz (b.fate b.kept[n].move.id fate)):=by
   intro lF uI m1 m2 m3 m4 m5;refine⟨?_,DY lF uI m1 m2⟩;have:=yP.Pz (p:=p) (la:=la) (lk:=lk) (c:=dz (b.fate b.kept[n].move.id fate)) m3 m4 m5 (by rw[B7];simpa using T5);have ee:{dz (b.fate b.kept[n].move.id fate) with kept:=(dz (b.fate b.kept[n].move.id fate)).kept.set n b.kept[n]}={dz b with ends:=(b.kept.set n {b.kept[n] with fate:=fate}).filterMap dN}:=by
    rw[B7];simp only[aeO,List.set_getElem_self]
    rfl
   rw[ee] at this;exact this
  rw[B7] at fin Ns;simp only[dW,ae6] at fin;rw[LQ];exact fin _ (Ns _ (fun x hx=>by simp[hx]) (by repeat (first|exact aep.head _|apply aep.tail)) (by repeat (first|exact aep.head _|apply aep.tail)) (by repeat (first|exact aep.head _|apply aep.tail)) (by repeat (first|exact aep.head _|apply aep.tail)) (by repeat (first|exact aep.head _|apply aep.tail)))
 cases hd:dN b.kept[n] with
 |none=>
  simp only[aeg]
  repeat' first|apply ww|apply wm;intro _|apply wb
  unfold bh.j3;refine q8 ?_;have hes:=Cb T5 FO hd;have Nt:({dz b with ends:=(b.kept.set n {b.kept[n] with fate:=fate}).filterMap dN}:C)=dz b:=by rw[hes];rfl
  refine main (dW la lk ti tn vs (dz b)) vs hs (dz b) rfl rfl (by rw[hes];exact ad2.refl _) (by omega) (fun lF uI _ _=>by rw[Nt];exact hc.mono uI) (by rw[Nt];exact⟨[dz b],rfl,rfl,by simp⟩)
 |some x=>
  have ex:HZ b.kept[n]=x:=by
   unfold dN at hd;split at hd
   ·cases hd;rfl
   ·cases hd
  obtain⟨T1,FN⟩:=hg.NH T5 FO hd;simp only[ad9]
  repeat' first|apply ww|apply wm;intro _|apply wb
  simp only[ft,adE];have hsx:b.kept[n].move.af=x.af:=(nY hd).1.symm;refine Gi (p:=p) (q:=dW la lk ti tn vs (dz b)) (by have:=wI b;show(b.kept.filterMap dN).length<_;omega) (fun y e' hy hpy=>?_) (fun DU=>?_)
  ·repeat' first|apply ww|apply wm;intro _|apply wb
   unfold bh.j3;refine tw ?_
   repeat' first|apply ww|apply wm;intro _|apply wb
   refine rv (p:=p) (by show vs.reverse.length<_;omega) rfl rfl ?_
   repeat' first|apply ww|apply wm;intro _|apply wb
   have hpe:e'.Perm ((b.kept.set n {b.kept[n] with fate:=fate}).filterMap dN):=Ch T1 hpy (by rw[hy,←ex]) FN;have:=main ⟨la,lk,ti,tn,vs.reverse++[SS r1 r4],(dz b).stamps,e',(dz b).clock,(dz b).af⟩ (SS r1 r4::vs) (dz b::hs) {dz b with ends:=e'} (by simp[dW]) rfl hpe (by simp) (fun lF uI m1 m2=>⟨?_,hc.mono uI⟩) ⟨[{dz b with ends:=(b.kept.set n {b.kept[n] with fate:=fate}).filterMap dN},dz b],rfl,rfl,by simp⟩
   ·exact this
   ·rw[ex] at m2;exact yP.end_ (p:=p) (la:=la) (lk:=lk) (c:={dz b with ends:=(b.kept.set n {b.kept[n] with fate:=fate}).filterMap dN}) (e':=(dz b).ends) m1 m2 (by have h3:=List.length_filterMap_le dN (b.kept.set n {b.kept[n] with fate:=fate});rw[aeF] at h3;show List.length (List.filterMap _ _)<_;omega) (T1.symm.trans (adJ (l₁:=[x])))
  ·refine absurd ?_ (DU x (T1.mem_iff.1 (by simp)));rw[←ex]
end
def iE(d c:aS):LV:=ak d++ak c
def xf(d c:aS):∀v∈iE d c,v.oneCell'=true:=l6 (gn _) (gn _)
instance{d c:aS}:Ln (iE d c) 28:=⟨rfl⟩
instance{d c:aS}:Gt (iE d c) 12 (.i d.flags):=⟨rfl⟩
instance{d c:aS}:Gt (iE d c) 26 (.i c.flags):=⟨rfl⟩
section
variable {d c e:aS} {i:Int} {x1 x2 x3 x4 x5 x6 x7 x8 x9 zg zf ze zb Cf GO GN Pf Pe SM SK SJ SI SH SG SF SE SD SC:Value}
instance:Sub (iE d c) 0 28 (iE d c):=⟨rfl,fun j v h=>by rw[adE];exact h⟩
instance:Sub (iE d c) 0 14 (ak d):=⟨rfl,fun j v h=>by rw[adE];unfold iE;rw[adY (adC.1 h).1];exact h⟩
instance:Sub (iE d c) 14 14 (ak c):=⟨rfl,fun j v h=>by
 have hl:(ak d).length=14:=rfl
 unfold iE
 rw[aea (by omega),hl,show 14+j-14=j by omega];exact h⟩
instance:Wr (iE d c) 0 (ak e) (iE e c):=⟨rfl,by show 14≤28;decide,gn e⟩
instance:Wr (iE d c) 14 (ak e) (iE d e):=⟨rfl,by show 28≤28;decide,gn e⟩
instance:Wr (iE d c) 12 [.i i] (iE {d with flags:=i} c):=⟨rfl,by show 13≤28;decide,fun v h=>by simp at h;subst h;rfl⟩
instance:Wr (iE d c) 26 [.i i] (iE d {c with flags:=i}):=⟨rfl,by show 27≤28;decide,fun v h=>by simp at h;subst h;rfl⟩
instance:Wr [x1,x2,x3,x4,x5,x6,x7,x8,x9,zg,zf,ze,zb,Cf,GO,GN,Pf,Pe,SM,SK,SJ,SI,SH,SG,SF,SE,SD,SC] 0 (iE d c) (iE d c):=⟨rfl,adG _,xf d c⟩
instance:Wr [x1,x2,x3,x4,x5,x6,x7,x8,x9,zg,zf,ze,zb,Cf,GO,GN,Pf,Pe,SM,SK,SJ,SI,SH,SG,SF,SE,SD,SC] 0 (ak d++(ak c++[])) (iE d c):=⟨rfl,adG _,by rw[adV];exact xf d c⟩
instance:Wr [x1,x2,x3,x4,x5,x6,x7,x8,x9,zg,zf,ze,zb,Cf,GO,GN,Pf,Pe,SM,SK,SJ,SI,SH,SG,SF,SE,SD,SC] 0 [.u 0,.u 0,.u 0,.u 0,.u 0,.u 0,.u 0,.u 0,.u 0,.u 0,.i 0,.i 0,.i 0,.i 0,.u 0,.u 0,.u 0,.u 0,.u 0,.u 0,.u 0,.u 0,.u 0,.u 0,.i 0,.i 0,.i 0,.i 0] (iE zA zA):=⟨rfl,adG _,xf zA zA⟩
end
def pM(d c:Option aS)(t:Move):Int:=match d with
 |none=>19
 |some d=>match c with
  |none=>20
  |some c=>if d.aJ≠c.aJ then 21 else if d.aJ≠t.aJ then 22 else if 8≤d.flags then 30 else if 8≤c.flags then 31 else 0
def QD{f:Int}(h0:0≤f)(h1:f<16):(bG .i64 .and f 8!=0)=decide (8≤f):=by
 rw[adX];simp only[bne_iff_ne,ne_eq,decide_eq_true_eq];rw[N6 h0 (by omega)];unfold has;omega
section
variable {W:World} {L R:LH} {K:VK} {X:WK} {p:Nat} {b:ax} {hs:List C} {f:ax×List C→LH} {t:Move} {d c:aS} {n:Nat}
def Qf[i:Lc (bn p) L (b,hs) f](h0:∀d c,pM (b.find t.aH) (b.find t.ar) t≠0→T W L (K (.tuple ⟨[.agg ⟨iE d c⟩,.i (pM (b.find t.aH) (b.find t.ar) t)]⟩)))
 (h:∀d c,b.find t.aH=some d→b.find t.ar=some c→pM (b.find t.aH) (b.find t.ar) t=0→T W L (K (.tuple ⟨[.agg ⟨iE d c⟩,.i 0]⟩))):T W L (oN (some ⟨p,0,none⟩) (ai t) K):=by
 refine nd (p:=p) fun hg=>?_;unfold oN
 repeat' first|apply ww|apply wm;intro _|apply wb|with_reducible refine rY ?_|fail
 cases hd:b.find t.aH with
 |none=>
  rw[hd] at h0;simp only[aeg,aes];have:=h0 zA zA (by show(19:Int)≠0;decide)
  repeat' first|apply ww|apply wm;intro _|apply wb
  exact T.dp this
 |some d=>
  cases hc:b.find t.ar with
  |none=>
   rw[hd,hc] at h0;simp only[aeg,aes,ad9,aec];have:=h0 zA zA (by show(20:Int)≠0;decide)
   repeat' first|apply ww|apply wm;intro _|apply wb
   exact T.dp this
  |some c=>
   rw[hd,hc] at h0 h;have fd:=(hg.LW d (aey hd)).flags;have fc:=(hg.LW c (aey hc)).flags;simp only[ad9,aec]
   repeat' first|apply ww|apply wm;intro _|apply wb
   refine az (fun g1=>?_) (fun g1=>?_)
   ·have g1:d.aJ≠c.aJ:=by simpa using g1
    have e:pM (some d) (some c) t=21:=if_pos g1;rw[e] at h0;have:=h0 zA zA (by decide)
    repeat' first|apply ww|apply wm;intro _|apply wb
    exact T.dp this
   have g1: ¬d.aJ≠c.aJ:=by simpa using g1
   repeat' first|apply ww|apply wm;intro _|apply wb
   refine az (fun g2=>?_) (fun g2=>?_)
   ·have g2:d.aJ≠t.aJ:=by simpa using g2
    have e:pM (some d) (some c) t=22:=by unfold pM;dsimp only;rw[if_neg g1,if_pos g2]
    rw[e] at h0;have:=h0 zA zA (by decide)
    repeat' first|apply ww|apply wm;intro _|apply wb
    exact T.dp this
   have g2: ¬d.aJ≠t.aJ:=by simpa using g2
   repeat' first|apply ww|apply wm;intro _|apply wb
   rw[QD fd.1 fd.2];refine az (fun g3=>?_) (fun g3=>?_)
   ·have e:pM (some d) (some c) t=30:=by unfold pM;dsimp only;rw[if_neg g1,if_neg g2,if_pos (of_decide_eq_true g3)]
    rw[e] at h0;have:=h0 zA zA (by decide)
    repeat' first|apply ww|apply wm;intro _|apply wb
    exact T.dp this
   have g3:=of_decide_eq_false g3
   repeat' first|apply ww|apply wm;intro _|apply wb
   rw[QD fc.1 fc.2];refine az (fun g4=>?_) (fun g4=>?_)
   ·have e:pM (some d) (some c) t=31:=by unfold pM;dsimp only;rw[if_neg g1,if_neg g2,if_neg g3,if_pos (of_decide_eq_true g4)]
    rw[e] at h0;have:=h0 zA zA (by decide)
    repeat' first|apply ww|apply wm;intro _|apply wb
    exact T.dp this
   have g4:=of_decide_eq_false g4;have:=h d c rfl rfl (by unfold pM;dsimp only;rw[if_neg g1,if_neg g2,if_neg g3,if_neg g4])
   repeat' first|apply ww|apply wm;intro _|apply wb
   exact T.dp this
def XB{f:Int}(h0:0≤f)(h1:f<256):(bG .i64 .and f 16!=0)=decide (has f 16):=by
 rw[adX];simp only[bne_iff_ne,ne_eq,decide_eq_true_eq];rw[U0 h0 h1,adO]
def XA{f:Int}(h0:0≤f)(h1:f<256):(bG .i64 .and f 32!=0)=decide (has f 32):=by
 rw[adX];simp only[bne_iff_ne,ne_eq,decide_eq_true_eq];rw[UZ h0 h1,adO]
def So{f:Int}(h0:0≤f)(h1:f<256):(bG .i64 .and f 64!=0)=decide (has f 64):=by
 rw[adX];simp only[bne_iff_ne,ne_eq,decide_eq_true_eq];rw[N7 h0 h1,adO]
def Nv{f:Int}(h0:0≤f)(h1:f<256):(bG .i64 .and f 128!=0)=decide (has f 128):=by
 rw[adX];simp only[bne_iff_ne,ne_eq,decide_eq_true_eq];rw[JI h0 h1,adO]
def aaI{f:Int}(h0:0≤f)(h1:f<256):(bG .i64 .and f 4!=0)=decide (has f 4):=by
 rw[adX];simp only[bne_iff_ne,ne_eq,decide_eq_true_eq];rw[Gw h0 h1,adO]
def Kz(G:pK W)(hd:vy d)(hc:vy c)(ht:t.aC<aO)(hf:0≤t.flags∧t.flags<256)(hz:t.aC=0→has t.flags 16∨has t.flags 32)
 (h:T W L (K (.tuple ⟨[.agg ⟨nm (bQ t d c).1⟩,.i (bQ t d c).2]⟩))):T W L (cZ (iE d c) (ai t) K):=by
 unfold cZ;have j3:∀(r1 r2 r3 r4 n1:Nat),n1<aO→((if has t.flags 32∧(if has t.flags 32 then min n1 (iI c false) else n1)=0 then((0:Nat),(34:Int)) else(if has t.flags 32 then min n1 (iI c false) else n1,0))=bQ t d c)→
  T W (Sep.pt r4 (nm n1)::Sep.pt r3 (nm 0)::Sep.pt r2 (ai t)::Sep.pt r1 (iE d c)::L) (cZ.j3 K r2 r4 r1 r3):=by
  intro r1 r2 r3 r4 n1 hn1 he;unfold cZ.j3
  repeat' first|apply ww|apply wm;intro _|apply wb
  rw[XA hf.1 hf.2];refine az (fun g1=>?_) (fun g1=>?_)
  ·have g1:=of_decide_eq_true g1;rw[if_pos g1] at he
   repeat' first|apply ww|apply wm;intro _|apply wb|with_reducible first|refine Eu G hc ?_|refine SB ?_|refine qx ?_|fail
   refine az (fun g2=>?_) (fun g2=>?_)
   ·have g2:=of_decide_eq_true g2;rw[if_pos ⟨g1,g2⟩] at he;rw[←he] at h;rw[g2]
    repeat' first|apply ww|apply wm;intro _|apply wb
    exact T.dp h
   ·have g2:=of_decide_eq_false g2;rw[if_neg (fun hh=>g2 hh.2)] at he;rw[←he] at h
    repeat' first|apply ww|apply wm;intro _|apply wb
    exact T.dp h
  ·have g1:=of_decide_eq_false g1;rw[if_neg (fun hh=>g1 hh.1),if_neg g1] at he;rw[←he] at h
   repeat' first|apply ww|apply wm;intro _|apply wb
   exact T.dp h
 have j2:∀(r1 r2 r3 r4:Nat),T W (Sep.pt r4 (nm (if t.aC=0 then aO-1 else t.aC))::Sep.pt r3 (nm 0)::Sep.pt r2 (ai t)::Sep.pt r1 (iE d c)::L) (cZ.j2 K r2 r4 r1 r3):=by
  intro r1 r2 r3 r4;have hn0:(if t.aC=0 then aO-1 else t.aC)<aO:=by unfold aO at *;split<;>omega
  unfold cZ.j2
  repeat' first|apply ww|apply wm;intro _|apply wb
  rw[XB hf.1 hf.2];refine az (fun g1=>?_) (fun g1=>?_)
  ·have g1:=of_decide_eq_true g1
   repeat' first|apply ww|apply wm;intro _|apply wb|with_reducible first|refine Eu G hd ?_|refine SB ?_|refine qx ?_|fail
   refine az (fun g2=>?_) (fun g2=>?_)
   ·have g2:=of_decide_eq_true g2;have he:bQ t d c=(0,33):=by unfold bQ;simp only[g1,g2,if_true,true_and]
    rw[he] at h;rw[g2]
    repeat' first|apply ww|apply wm;intro _|apply wb
    exact T.dp h
   ·have g2:=of_decide_eq_false g2;refine j3 _ _ _ _ _ (by have:=A6 (p:=true) hd;omega) ?_;unfold bQ;simp only[g1,g2,if_true,true_and,if_false]
  ·have g1:=of_decide_eq_false g1;refine j3 _ _ _ _ _ hn0 ?_;unfold bQ;simp only[g1,if_false,false_and]
 have adu:(has t.flags 16∨has t.flags 32)→t.aC=0→(if t.aC=0 then aO-1 else t.aC)=aO-1:=fun _ h=>if_pos h
 repeat' first|apply ww|apply wm;intro _|apply wb|with_reducible refine BH hf ?_|fail
 rename_i r1 r2 r3 r4;refine az (fun g1=>?_) (fun g1=>?_)
 ·repeat' first|apply ww|apply wm;intro _|apply wb|with_reducible refine qx ?_|fail
  unfold cZ.j1;refine az (fun g2=>?_) (fun g2=>?_)
  ·have g2:=of_decide_eq_true g2;refine IE ⟨tI _,G.Qc⟩ ?_
   repeat' first|apply ww|apply wm;intro _|apply wb
   have:=j2 r1 r2 r3 r4;rw[if_pos g2] at this;exact this
  ·have g2:=of_decide_eq_false g2;have:=j2 r1 r2 r3 r4;rw[if_neg g2] at this;exact this
 ·unfold cZ.j1;refine q8 ?_;have g1:=of_decide_eq_false g1;have:=j2 r1 r2 r3 r4;rw[if_neg (fun hh=>g1 (hz hh))] at this;exact this
end
structure acV(t:Move):Prop where
 flags:0≤t.flags∧t.flags≤255
 id0:t.id≠0
 idM:t.id≠aO-1
 tog:gW t.flags
 fresh:t.af=0∧t.born=0
 timeout:0≤t.timeout∧t.timeout≤1073741824
 waits:0<t.timeout→has t.flags 2
 ends:iR t.flags→t.pending≠0∧(0≤t.aJ∧t.aJ<4294967296)∧(0≤t.code∧t.code<65536)
 aW: ¬iR t.flags→t.aH≠t.ar∧t.pending=0∧(t.aC=0→has t.flags 16∨has t.flags 32)∧(1≤t.aJ∧t.aJ<4294967296)∧(1≤t.code∧t.code<65536)
def xM{t:Move}(h:lE t=0):acV t:=by
 unfold lE at h;by_cases h1:t.flags<0∨255<t.flags
 ·rw[if_pos h1] at h;exact absurd h (by decide)
 rw[if_neg h1] at h;by_cases h2:t.id=0
 ·rw[if_pos h2] at h;exact absurd h (by decide)
 rw[if_neg h2] at h;by_cases h3:t.id=aO-1
 ·rw[if_pos h3] at h;exact absurd h (by decide)
 rw[if_neg h3] at h;by_cases h4: ¬gW t.flags
 ·rw[if_pos h4] at h;exact absurd h (by decide)
 rw[if_neg h4] at h;by_cases h5:t.af≠0∨t.born≠0
 ·rw[if_pos h5] at h;exact absurd h (by decide)
 rw[if_neg h5] at h;by_cases h6:t.timeout<0∨1073741824<t.timeout∨0<t.timeout∧¬has t.flags 2
 ·rw[if_pos h6] at h;exact absurd h (by decide)
 rw[if_neg h6] at h;have hw:0<t.timeout→has t.flags 2:=fun h0=>adO.1 fun hh=>h6 (.inr (.inr ⟨h0,hh⟩));by_cases he:iR t.flags
 ·rw[if_pos he] at h;by_cases g1:t.pending=0
  ·rw[if_pos g1] at h;exact absurd h (by decide)
  rw[if_neg g1] at h;by_cases g2:t.aJ<0∨4294967296≤t.aJ
  ·rw[if_pos g2] at h;exact absurd h (by decide)
  rw[if_neg g2] at h;by_cases g3:t.code<0∨65536≤t.code
  ·rw[if_pos g3] at h;exact absurd h (by decide)
  exact⟨by omega,h2,h3,adO.1 h4,by omega,by omega,hw,fun _=>⟨g1,by omega,by omega⟩,fun hh=>absurd he hh⟩
 ·rw[if_neg he] at h;by_cases g1:t.aH=0
  ·rw[if_pos g1] at h;exact absurd h (by decide)
  rw[if_neg g1] at h;by_cases g2:t.ar=0
  ·rw[if_pos g2] at h;exact absurd h (by decide)
  rw[if_neg g2] at h;by_cases g3:t.aH=t.ar
  ·rw[if_pos g3] at h;exact absurd h (by decide)
  rw[if_neg g3] at h;by_cases g4:t.pending≠0
  ·rw[if_pos g4] at h;exact absurd h (by decide)
  rw[if_neg g4] at h;by_cases g5:t.aC=0∧¬has t.flags 16∧¬has t.flags 32
  ·rw[if_pos g5] at h;exact absurd h (by decide)
  rw[if_neg g5] at h;by_cases g6:t.aJ<1∨4294967296≤t.aJ
  ·rw[if_pos g6] at h;exact absurd h (by decide)
  rw[if_neg g6] at h;by_cases g7:t.code<1∨65536≤t.code
  ·rw[if_pos g7] at h;exact absurd h (by decide)
  refine⟨by omega,h2,h3,adO.1 h4,by omega,by omega,hw,fun hh=>absurd hh he,fun _=>⟨g3,by omega,fun h0=>?_,by omega,by omega⟩⟩;by_cases q:has t.flags 16
  ·exact .inl q
  ·by_cases q2:has t.flags 32
   ·exact .inr q2
   ·exact absurd ⟨h0,q,q2⟩ g5
section
variable {b:ax} {t:Move} {d c:aS} {n:Nat} {q:Bool}
def rQ(hg:Good b){id:Nat}(hd:b.find id=some d):AG d∧d.id=id:=⟨hg.LW d (aey hd),by simpa using List.find?_some hd⟩
def I'{s:Bool}(hd:AG d)(hm:(more d s n q).2=0):AG (more d s n q).1∧(more d s n q).1.id=d.id∧(more d s n q).1.af=d.af:=by
 obtain⟨⟨i1,i2,i3,i4,i5,i6,i7,i8,i9⟩,i10,i11,i12⟩:=hd;unfold more at hm⊢;cases s with
 |false=>
  simp only[ad0,if_false] at hm⊢;by_cases h1:aO≤d.cp+d.cq+n
  ·rw[if_pos h1] at hm;exact absurd hm (by show ¬(32:Int)=0;decide)
  by_cases h2:has d.flags 4∧iI d false<n
  ·rw[if_neg h1,if_pos h2] at hm;exact absurd hm (by show ¬(34:Int)=0;decide)
  rw[if_neg h1,if_neg h2];cases q with
  |true=>exact⟨⟨⟨i1,i2,i3,by show d.cp+n<aO;omega,i5,i6,i7,i8,i9⟩,i10,i11,i12⟩,rfl,rfl⟩
  |false=>exact⟨⟨⟨i1,i2,i3,i4,by show d.cq+n<aO;omega,i6,i7,i8,i9⟩,i10,i11,i12⟩,rfl,rfl⟩
 |true=>
  simp only[if_true] at hm⊢;by_cases h1:aO≤d.dp+d.dq+n
  ·rw[if_pos h1] at hm;exact absurd hm (by show ¬(32:Int)=0;decide)
  by_cases h2:has d.flags 2∧iI d true<n
  ·rw[if_neg h1,if_pos h2] at hm;exact absurd hm (by show ¬(33:Int)=0;decide)
  rw[if_neg h1,if_neg h2];cases q with
  |true=>exact⟨⟨⟨i1,by show d.dp+n<aO;omega,i3,i4,i5,i6,i7,i8,i9⟩,i10,i11,i12⟩,rfl,rfl⟩
  |false=>exact⟨⟨⟨i1,i2,by show d.dq+n<aO;omega,i4,i5,i6,i7,i8,i9⟩,i10,i11,i12⟩,rfl,rfl⟩
def Gj(hd:AG d){yes:Prop}[Decidable yes]:AG (close d yes)∧(close d yes).id=d.id∧(close d yes).af=d.af:=by
 obtain⟨⟨i1,i2,i3,i4,i5,i6,i7,i8,i9⟩,i10,i11,i12⟩:=hd;unfold close;split
 ·have hf:0≤d.flags%8+8∧d.flags%8+8<16:=by omega
  exact⟨⟨⟨i1,i2,i3,i4,i5,i6,i7,by show qZ (d.flags%8+8);unfold qZ;omega,i9⟩,⟨i10.1,i10.2.1,by show 0≤d.flags%8+8∧d.flags%8+8≤65535;omega⟩,hf,i12⟩,rfl,rfl⟩
 ·exact⟨⟨⟨i1,i2,i3,i4,i5,i6,i7,i8,i9⟩,i10,i11,i12⟩,rfl,rfl⟩
def Ci{a x:aS}{id:Nat}(hx:b.find id=some x)(ji:a.id≠id):(b.aF a).find id=some x:=by
 unfold ax.find at *;show(b.ag.map fun x=>if x.id=a.id then{a with af:=x.af} else x).find? _=_;rw[List.find?_map];have:((fun y:aS=>decide (y.id=id))∘fun x=>if x.id=a.id then{a with af:=x.af} else x)=fun y:aS=>decide (y.id=id):=by
  funext y
  simp only[Function.comp];by_cases e:y.id=a.id<;>simp[e]
 rw[this,hx];have hxi:x.id=id:=by simpa using List.find?_some hx
 simp only[ael];rw[if_neg (by rw[hxi];exact fun h=>ji h.symm)]
def qX(hg:Good b){id:Nat}{k:Kept}(hk:b.named id=some k):KG k∧k.move.id=id:=⟨hg.LB k (aey hk),by simpa using List.find?_some hk⟩
end
section
variable {W:World} {L R:LH} {K:VK} {X:WK} {p:Nat} {b:ax} {hs:List C} {f:ax×List C→LH} {t:Move} {d c:aS} {n:Nat}
def Ky(h1:lE t=0)(h2: ¬iR t.flags)(h3:b.named t.id=none)(h4:b.find t.aH=some d)(h5:b.find t.ar=some c)(h6:pM (some d) (some c) t=0):
 jb t (b.named t.id) (b.find t.aH) (b.find t.ar) b.kept.length=(if 96≤b.kept.length then(35,0)
  else if(bQ t d c).2≠0 then((bQ t d c).2,0)
  else if(more d true (bQ t d c).1 (decide (has t.flags 2))).2≠0 then((more d true (bQ t d c).1 (decide (has t.flags 2))).2,0)
  else if(more c false (bQ t d c).1 (decide (has t.flags 2))).2≠0 then((more c false (bQ t d c).1 (decide (has t.flags 2))).2,0)
  else(0,(bQ t d c).1)):=by
 unfold pM at h6;dsimp only at h6;unfold jb;rw[if_neg (by simpa using h1),if_neg h2,h3,h4,h5];dsimp only;by_cases g1:d.aJ≠c.aJ
 ·rw[if_pos g1] at h6;cases h6
 by_cases g2:d.aJ≠t.aJ
 ·rw[if_neg g1,if_pos g2] at h6;cases h6
 by_cases g3:8≤d.flags
 ·rw[if_neg g1,if_neg g2,if_pos g3] at h6;cases h6
 by_cases g4:8≤c.flags
 ·rw[if_neg g1,if_neg g2,if_neg g3,if_pos g4] at h6;cases h6
 rw[if_neg g1,if_neg g2,if_neg g3,if_neg g4]
def R1(G:pK W)(ht:uY t)(Nd:kN t)(hl:hs.length<800000)[i:Lc (bn p) L (b,hs) f]
 (h:∀dh,Ext (dz b) hs (dz (b.move t).2) dh 6→T W (f ((b.move t).2,dh)) (K (.i (b.move t).1))):T W L (kJ (some ⟨p,0,none⟩) (ai t) K):=by
 have hL:f (b,hs)=L:=i.same;refine nd (p:=p) fun hg=>?_;have bad:∀r:Int,r≠0→(jb t (b.named t.id) (b.find t.aH) (b.find t.ar) b.kept.length).1=r→T W L (K (.i r)):=by
  intro r hr he;have e:b.move t=(r,b):=by unfold ax.move;dsimp only;rw[he,if_pos hr]
  rw[e] at h;have:=h hs (Ext.refl _ _ _);rw[hL] at this;exact this
 unfold kJ
 repeat' first|apply ww|apply wm;intro _|apply wb|with_reducible refine EW G ht ?_|fail
 refine az (fun g1=>?_) (fun g1=>?_)
 ·have g1:lE t≠0:=by simpa using g1
  have:=bad (lE t) g1 (by unfold jb;rw[if_pos g1]);exact T.dp this
 have g1:lE t=0:=by simpa using g1
 have ck:=xM g1;have hf:0≤t.flags∧t.flags<256:=by have:=ck.flags;omega
 repeat' first|apply ww|apply wm;intro _|apply wb|with_reducible refine Ew hf ?_|fail
 refine az (fun g2=>?_) (fun g2=>?_)
 ·have g2:=of_decide_eq_true g2;have:=bad 6 (by decide) (by unfold jb;rw[if_neg (by simpa using g1),if_pos g2]);exact T.dp this
 have g2:=of_decide_eq_false g2
 repeat' first|apply ww|apply wm;intro _|apply wb|with_reducible refine Ep ?_|fail
 cases hn:b.named t.id with
 |some k=>
  obtain⟨hk,_⟩:=qX hg hn;simp only[ad9,aec]
  repeat' first|apply ww|apply wm;intro _|apply wb|with_reducible refine EX hf hk.qv ?_|fail
  have:=bad (qw t k.asked) (oW _ _) (by unfold jb;rw[if_neg (by simpa using g1),if_neg g2,hn]);exact T.dp this
 |none=>
 simp only[aeg,aes];have key:∀(d c:Option aS),b.find t.aH=d→b.find t.ar=c→pM d c t≠0→(jb t (b.named t.id) (b.find t.aH) (b.find t.ar) b.kept.length).1=pM d c t:=by
  intro d c hd hc ji;rw[hd,hc,hn];unfold jb;rw[if_neg (by simpa using g1),if_neg g2];dsimp only;cases d with
  |none=>rfl
  |some d=>
   cases c with
   |none=>rfl
   |some c=>
    unfold pM at ji⊢;dsimp only at ji⊢;by_cases g1:d.aJ≠c.aJ
    ·rw[if_pos g1,if_pos g1]
    by_cases g2:d.aJ≠t.aJ
    ·rw[if_neg g1,if_pos g2,if_neg g1,if_pos g2]
    by_cases g3:8≤d.flags
    ·rw[if_neg g1,if_neg g2,if_pos g3,if_neg g1,if_neg g2,if_pos g3]
    by_cases g4:8≤c.flags
    ·rw[if_neg g1,if_neg g2,if_neg g3,if_pos g4,if_neg g1,if_neg g2,if_neg g3,if_pos g4]
    rw[if_neg g1,if_neg g2,if_neg g3,if_neg g4] at ji;exact absurd rfl ji
 repeat' first|apply ww|apply wm;intro _|apply wb
 refine Qf (fun d c ji=>?_) (fun d c hd hc he=>?_)
 ·repeat' first|apply ww|apply wm;intro _|apply wb
  refine lh (by simpa using ji) ?_;have:=bad _ ji (key _ _ rfl rfl ji);exact T.dp this
 repeat' first|apply ww|apply wm;intro _|apply wb
 obtain⟨gd,Ez⟩:=rQ hg hd;obtain⟨gc,DX⟩:=rQ hg hc;rw[hd,hc] at he;have Jw:=Ky (b:=b) g1 g2 hn hd hc he;refine fx (by simp) ?_
 repeat' first|apply ww|apply wm;intro _|apply wb|with_reducible refine Oq ?_|fail
 by_cases g3:96≤b.kept.length
 ·rw[decide_eq_false (by omega)]
  repeat' first|apply ww|apply wm;intro _|apply wb
  have:=bad 35 (by decide) (by rw[Jw,if_pos g3]);exact T.dp this
 rw[decide_eq_true (by omega)];rw[if_neg g3] at Jw;obtain⟨ji,acX,QG,adk,Sk⟩:=ck.aW g2
 repeat' first|apply ww|apply wm;intro _|apply wb|with_reducible refine Kz G gd.ok gc.ok ht.aC hf QG ?_|fail
 refine az (fun g4=>?_) (fun g4=>?_)
 ·have g4:(bQ t d c).2≠0:=by simpa using g4
  have:=bad _ g4 (by rw[Jw,if_pos g4]);exact T.dp this
 have g4: ¬(bQ t d c).2≠0:=by simpa using g4
 rw[if_neg g4] at Jw;have CU:(bQ t d c).1<aO:=by
  have h1:=A6 (p:=true) gd.ok;have h2:=A6 (p:=false) gc.ok;have h3:=ht.aC;unfold bQ aO at *;dsimp only
  repeat' split
  all_goals first|(show(0:Nat)<_;omega)|(show min _ _<_;omega)|(show _<_;split<;>omega)|omega
 generalize hN:(bQ t d c).1=N at *
 repeat' first|apply ww|apply wm;intro _|apply wb|with_reducible first|refine qd hf ?_|refine Rw G gd.ok CU ⟨gd.flags.1,by have:=gd.flags.2;omega⟩ ?_|fail
 refine az (fun g5=>?_) (fun g5=>?_)
 ·have g5:(more d true N (decide (has t.flags 2))).2≠0:=by simpa using g5
  have:=bad _ g5 (by rw[Jw,if_pos g5]);exact T.dp this
 have g5: ¬(more d true N (decide (has t.flags 2))).2≠0:=by simpa using g5
 rw[if_neg g5] at Jw
 repeat' first|apply ww|apply wm;intro _|apply wb|with_reducible first|refine qd hf ?_|refine OI G gc.ok CU ⟨gc.flags.1,by have:=gc.flags.2;omega⟩ ?_|fail
 refine az (fun g6=>?_) (fun g6=>?_)
 ·have g6:(more c false N (decide (has t.flags 2))).2≠0:=by simpa using g6
  have:=bad _ g6 (by rw[Jw,if_pos g6]);exact T.dp this
 have g6: ¬(more c false N (decide (has t.flags 2))).2≠0:=by simpa using g6
 rw[if_neg g6] at Jw;obtain⟨md,mdi,mds⟩:=I' (q:=decide (has t.flags 2)) gd (adO.1 g5);obtain⟨mc,mci,mcs⟩:=I' (q:=decide (has t.flags 2)) gc (adO.1 g6);have e:b.move t=(0,b.yn t N):=by unfold ax.move;dsimp only;rw[Jw];rfl
 rw[e] at h;have em:b.yn t N=((b.aF (close (more d true N (decide (has t.flags 2))).1 (has t.flags 64))).aF (close (more c false N (decide (has t.flags 2))).1 (has t.flags 128))).kY t {t with aC:=N} (waits t):=by unfold ax.yn;rw[hd,hc]
 rw[em] at h;have last:∀(D C:aS)(r1 r2 r3 r4:Nat),AG D→AG C→D.id=d.id→C.id=c.id→D.af=d.af→C.af=c.af→
    (∀dh,Ext (dz b) hs (dz (((b.aF D).aF C).kY t {t with aC:=N} (waits t))) dh 6→T W (f (((b.aF D).aF C).kY t {t with aC:=N} (waits t),dh)) (K (.i 0)))→
    T W (Sep.pt r4 (nm N)::Sep.pt r3 (iE D C)::Sep.pt r2 (aM zK)::Sep.pt r1 (ai t)::L) (kJ.j2 K r3 (some ⟨p,0,none⟩) r1 r4):=by
  intro D C r1 r2 r3 r4 gD gC XI hCi hDs hCs hh;have Sh:b.find D.id=some d:=by rw[XI,Ez];exact hd
  have eD:({D with af:=d.af}:aS)=D:=by rw[←hDs]
  have eC:({C with af:=c.af}:aS)=C:=by rw[←hCs]
  have Si:(b.aF D).find C.id=some c:=Ci (by rw[hCi,DX];exact hc) (by rw[XI,hCi,Ez,DX];exact ji);have qz:=hg.af;have mC:=hg.mC;have many:=hg.many;unfold kJ.j2
  repeat' first|apply ww|apply wm;intro _|apply wb
  refine Ei (p:=p) Sh (by rw[eD];exact gD) (by omega) fun uI x1=>?_;have l1:=x1.len;have i1:=i.next (b.aF D,uI)
  repeat' first|apply ww|apply wm;intro _|apply wb
  refine Ei (p:=p) Si (by rw[eC];exact gC) (by omega) fun gN x2=>?_;have l2:=x2.len;have i2:=i.next ((b.aF D).aF C,gN)
  repeat' first|apply ww|apply wm;intro _|apply wb|with_reducible refine qd hf ?_|fail
  have Xe:KG (pv ((b.aF D).aF C) t {t with aC:=N} (waits t)):=by
   have cl:=hg.clock;refine⟨ht,⟨ht.id,ht.aH,ht.ar,CU,ht.pending,ht.timeout,ht.aJ,ht.code,ht.flags,?_,?_⟩,Nd,Nd,hf,hf,?_,ck.timeout,cl⟩
   ·show qZ (b.af+1);unfold qZ;omega
   ·show qZ b.clock;unfold qZ;omega
   ·show 0≤waits t∧waits t≤4;unfold Md.waits;split<;>decide
  have GV:((b.aF D).aF C).named ({t with aC:=N}:Move).id=none:=hn;refine IT (p:=p) (waits:=decide (has t.flags 2)) GV (show b.kept.length<96 by omega) Xe (by unfold Md.waits;by_cases q:has t.flags 2<;>simp[q]) (by omega) fun qL x3=>?_
  repeat' first|apply ww|apply wm;intro _|apply wb
  have:=hh qL (((x1.trans x2).trans x3).mono (by omega));exact T.dp this
 obtain⟨cd,cdi,cds⟩:=Gj (yes:=has t.flags 64) md;obtain⟨cc,cci,ccs⟩:=Gj (yes:=has t.flags 128) mc;have R4:∀(D:aS)(r1 r2 r3 r4:Nat),D=close (more d true N (decide (has t.flags 2))).1 (has t.flags 64)→T W (Sep.pt r4 (nm N)::Sep.pt r3 (iE D (more c false N (decide (has t.flags 2))).1)::Sep.pt r2 (aM zK)::Sep.pt r1 (ai t)::L) (kJ.j1 K r1 r3 (some ⟨p,0,none⟩) r4):=by
  intro D r1 r2 r3 r4 hD;unfold kJ.j1
  repeat' first|apply ww|apply wm;intro _|apply wb
  rw[Nv hf.1 hf.2];have fin:=last D (close (more c false N (decide (has t.flags 2))).1 (has t.flags 128)) r1 r2 r3 r4 (by rw[hD];exact cd) cc (by rw[hD,cdi,mdi]) (by rw[cci,mci]) (by rw[hD,cds,mds]) (by rw[ccs,mcs]) (by rw[hD];exact h);refine az (fun q=>?_) (fun q=>?_)
  ·have q:=of_decide_eq_true q
   repeat' first|apply ww|apply wm;intro _|apply wb
   rw[YD mc.flags.1 mc.flags.2];unfold close at fin;rw[if_pos q] at fin;exact fin
  ·have q:=of_decide_eq_false q;unfold close at fin;rw[if_neg q] at fin;exact fin
 repeat' first|apply ww|apply wm;intro _|apply wb
 rw[So hf.1 hf.2];refine az (fun q=>?_) (fun q=>?_)
 ·have q:=of_decide_eq_true q
  repeat' first|apply ww|apply wm;intro _|apply wb
  rw[YD md.flags.1 md.flags.2];exact R4 _ _ _ _ _ (by unfold close;rw[if_pos q])
 ·have q:=of_decide_eq_false q;exact R4 _ _ _ _ _ (by unfold close;rw[if_neg q])
end
section
variable {m t:Move} {x1 x2 x3 x4 x5 x6 x7 x8 x9 zg zf ze zb Cf GO GN:Value} {n:Nat} {i:Int}
instance:Wr (ai m) 2 (nm n) (ai {m with aH:=n}):=⟨rfl,by show 4≤16;decide,lC n⟩
instance:Wr (ai m) 4 (nm n) (ai {m with ar:=n}):=⟨rfl,by show 6≤16;decide,lC n⟩
end
section
variable {W:World} {L R:LH} {K:VK} {X:WK} {p:Nat} {b:ax} {hs:List C} {f:ax×List C→LH} {t q:Move} {d c:aS} {n:Nat} {fate:Int} {k:Kept}
def Qa(h:T W L (K (.bool (decide (¬dA t q))))):T W L (df (ai t) (ai q) K):=by
 unfold df;have j3:∀(r1 r2:Nat)(x:Bool),((x=true∧(t.code=0∨t.code=q.code))↔ ¬dA t q)→T W (Sep.pt r2 (ai q)::Sep.pt r1 (ai t)::L) (df.j3 K r1 r2 x):=by
  intro r1 r2 x hx;unfold df.j3;refine az (fun g=>?_) (fun g=>?_)
  ·repeat' first|apply ww|apply wm;intro _|apply wb|with_reducible refine az (fun h1=>?_) (fun h1=>?_)|fail
   ·have h1:t.code=0:=by simpa using h1
    rw[decide_eq_true (hx.1 ⟨g,.inl h1⟩)] at h;exact T.dp h
   ·have h1: ¬t.code=0:=by simpa using h1
    refine T.fin (T.dp h) ?_
    congr 1
    rw[adX];simp only[beq_iff_eq,decide_eq_true_eq];rw[←hx]
    constructor
    ·exact fun e=>⟨g,.inr e⟩
    ·rintro⟨_,e|e⟩
     ·exact absurd e h1
     ·exact e
  ·rw[decide_eq_false (fun hh=>by rw[(hx.2 hh).1] at g;cases g)] at h;exact T.dp h
 have j2:∀(r1 r2:Nat)(x:Bool),((x=true∧(t.aJ=0∨t.aJ=q.aJ)∧(t.code=0∨t.code=q.code))↔ ¬dA t q)→T W (Sep.pt r2 (ai q)::Sep.pt r1 (ai t)::L) (df.j2 K r1 r2 x):=by
  intro r1 r2 x hx;unfold df.j2;refine az (fun g=>?_) (fun g=>?_)
  ·repeat' first|apply ww|apply wm;intro _|apply wb|with_reducible refine az (fun h1=>?_) (fun h1=>?_)|fail
   ·have h1:t.aJ=0:=by simpa using h1
    exact j3 _ _ _ (by rw[←hx];simp[g,h1])
   ·have h1: ¬t.aJ=0:=by simpa using h1
    exact j3 _ _ _ (by rw[←hx];simp[g,h1])
  ·exact j3 _ _ _ (by rw[←hx];simp[g])
 have j1:∀(r1 r2:Nat)(x:Bool),((x=true∧(t.ar=0∨t.ar=q.ar)∧(t.aJ=0∨t.aJ=q.aJ)∧(t.code=0∨t.code=q.code))↔ ¬dA t q)→T W (Sep.pt r2 (ai q)::Sep.pt r1 (ai t)::L) (df.j1 K r1 r2 x):=by
  intro r1 r2 x hx;unfold df.j1;refine az (fun g=>?_) (fun g=>?_)
  ·repeat' first|apply ww|apply wm;intro _|apply wb|with_reducible first|refine qx ?_|refine az (fun h1=>?_) (fun h1=>?_)|fail
   ·have h1:=of_decide_eq_true h1;exact j2 _ _ _ (by rw[←hx];simp[g,h1])
   ·have h1:=of_decide_eq_false h1;exact j2 _ _ _ (by rw[←hx];simp[g,h1])
  ·exact j2 _ _ _ (by rw[←hx];simp[g])
 have DU:((t.aH=0∨t.aH=q.aH)∧(t.ar=0∨t.ar=q.ar)∧(t.aJ=0∨t.aJ=q.aJ)∧(t.code=0∨t.code=q.code))↔ ¬dA t q:=by unfold dA;omega
 repeat' first|apply ww|apply wm;intro _|apply wb|with_reducible first|refine qx ?_|refine az (fun h1=>?_) (fun h1=>?_)|fail
 ·have h1:=of_decide_eq_true h1;exact j1 _ _ _ (by rw[←DU];simp[h1])
 ·have h1:=of_decide_eq_false h1;exact j1 _ _ _ (by rw[←DU];simp[h1])
def k8(Kn:Option Kept)(t:Move):Int:=match Kn with
 |none=>23
 |some k=>if ¬has k.move.flags 2 then 24 else if dA t k.move then 25 else if 1<k.fate then 25+k.fate else 0
def QA(G:pK W)[i:Lc (bn p) L (b,hs) f](h0:∀m,k8 (b.named t.pending) t≠0→T W L (K (.tuple ⟨[.agg ⟨ai m⟩,.i (k8 (b.named t.pending) t)]⟩)))
 (h:∀k,b.named t.pending=some k→k8 (b.named t.pending) t=0→T W L (K (.tuple ⟨[.agg ⟨ai k.move⟩,.i 0]⟩))):T W L (oR (some ⟨p,0,none⟩) (ai t) K):=by
 refine nd (p:=p) fun hg=>?_;unfold oR
 repeat' first|apply ww|apply wm;intro _|apply wb|with_reducible refine Ep ?_|fail
 cases hn:b.named t.pending with
 |none=>
  rw[hn] at h0;simp only[aeg,aes];have:=h0 zT (by show(23:Int)≠0;decide)
  repeat' first|apply ww|apply wm;intro _|apply wb
  exact T.dp this
 |some k=>
  rw[hn] at h0 h;obtain⟨kg,_⟩:=qX hg hn;simp only[ad9,aec]
  repeat' first|apply ww|apply wm;intro _|apply wb|with_reducible refine qd kg.rG ?_|fail
  by_cases g1:has k.move.flags 2
  ·rw[decide_eq_true g1]
   repeat' first|apply ww|apply wm;intro _|apply wb|with_reducible refine Qa ?_|fail
   by_cases g2:dA t k.move
   ·have e:k8 (some k) t=25:=by unfold k8;dsimp only;rw[if_neg (fun h=>h g1),if_pos g2]
    rw[e] at h0;have:=h0 zT (by decide);rw[decide_eq_false (fun h=>h g2)]
    repeat' first|apply ww|apply wm;intro _|apply wb
    exact T.dp this
   ·rw[decide_eq_true g2];obtain⟨f1,f2⟩:=kg.fate;have e:k8 (some k) t=if 1<k.fate then 25+k.fate else 0:=by unfold k8;dsimp only;rw[if_neg (fun h=>h g1),if_neg g2]
    obtain⟨fn,Y8⟩:∃fn:Nat,k.fate=fn:=⟨k.fate.toNat,by omega⟩;have LN:fn<5:=by omega
    have OQ:([.i 0,.i 0,.i 27,.i 28,.i 29]:LV)[fn]?=some (.i (if 1<k.fate then 25+k.fate else 0)):=by
     rw[Y8]
     match fn,LN with
     |0,_=>rfl
     |1,_=>rfl
     |2,_=>rfl
     |3,_=>rfl
     |4,_=>rfl
    repeat' first|apply ww|apply wm;intro _|apply wb
    refine c9 ⟨f1,by omega⟩ ?_;have hnt:k.fate.toNat* 1=fn:=by omega
    rw[hnt];have yy:=G.told fn _ OQ;refine fun w gN=>⟨_,by rw[gN.old (zE yy)];exact yy,?_⟩;refine T.at ?_ gN
    repeat' first|apply ww|apply wm;intro _|apply wb
    refine fun w gN=>⟨fun j v hj=>?_,?_⟩
    ·match j,hj with
     |0,hj=>
      simp at hj;subst hj;have LQ:=yy;rw[ft,adE] at LQ;rw[ft,aev,gN.old (zE LQ)];exact LQ
    refine T.at ?_ gN
    repeat' first|apply ww|apply wm;intro _|apply wb
    rw[←e];by_cases g3:k8 (some k) t=0
    ·rw[g3];have:=h k rfl g3;exact T.dp this
    ·have:=h0 k.move g3;exact T.dp this
  ·have e:k8 (some k) t=24:=by unfold k8;dsimp only;rw[if_pos g1]
   rw[e] at h0;have:=h0 zT (by decide);rw[decide_eq_false g1]
   repeat' first|apply ww|apply wm;intro _|apply wb
   exact T.dp this
def Xz{f:Int}(h0:0≤f)(h1:f<256):(bG .i64 .and f 8!=0)=decide (has f 8):=by
 rw[adX];simp only[bne_iff_ne,ne_eq,decide_eq_true_eq];rw[N6 h0 h1,adO]
def KU(hf:0≤t.flags∧t.flags<256)(Us:has t.flags 8↔ ¬has t.flags 4)(h0:jL t q→T W L (K (.tuple ⟨[.agg ⟨nm 0⟩,.i 26]⟩)))
 (h: ¬jL t q→T W L (K (.tuple ⟨[.agg ⟨nm (bU t q)⟩,.i 0]⟩))):T W L (jq (ai t) (ai q) K):=by
 unfold jq
 repeat' first|apply ww|apply wm;intro _|apply wb|with_reducible refine qx ?_|fail
 refine az (fun g1=>?_) (fun g1=>?_)
 ·have g1:=of_decide_eq_true g1;have e:bU t q=q.aC:=if_pos g1;have hb: ¬jL t q:=by unfold jL;rw[e];omega
  have:=h hb;rw[e] at this
  repeat' first|apply ww|apply wm;intro _|apply wb
  exact T.dp this
 have g1:=of_decide_eq_false g1;have e:bU t q=t.aC:=if_neg g1;unfold jq.j1
 repeat' first|apply ww|apply wm;intro _|apply wb
 rw[Xz hf.1 hf.2];refine az (fun g2=>?_) (fun g2=>?_)
 ·have g2:=of_decide_eq_true g2
  repeat' first|apply ww|apply wm;intro _|apply wb
  by_cases g3:t.aC=q.aC
  ·have hb: ¬jL t q:=by
    unfold jL;rw[e];have:=Us.1 g2;rintro(⟨h4,_⟩|⟨_,h4⟩)
    ·exact this h4
    ·exact h4 g3
   have:=h hb;rw[e] at this;rw[decide_eq_true g3]
   repeat' first|apply ww|apply wm;intro _|apply wb|with_reducible refine xX ?_|fail
   refine fx (by simp;omega) ?_
   repeat' first|apply ww|apply wm;intro _|apply wb
   exact T.dp this
  ·have hb:jL t q:=.inr ⟨Us.1 g2,by rw[e];exact g3⟩;have:=h0 hb;rw[decide_eq_false g3]
   repeat' first|apply ww|apply wm;intro _|apply wb
   exact T.dp this
 ·have g2:=of_decide_eq_false g2;have g4:has t.flags 4:=adO.1 fun hh=>g2 (Us.2 hh)
  repeat' first|apply ww|apply wm;intro _|apply wb|with_reducible refine xX ?_|fail
  refine az (fun g3=>?_) (fun g3=>?_)
  ·have g3:=of_decide_eq_true g3;have:=h0 (.inl ⟨g4,by rw[e];exact g3⟩)
   repeat' first|apply ww|apply wm;intro _|apply wb
   exact T.dp this
  ·have g3:=of_decide_eq_false g3;have:=h (by
    rintro(⟨_,h4⟩|⟨h4,_⟩)
    ·rw[e] at h4;exact g3 h4
    ·exact h4 g4)
   rw[e] at this
   repeat' first|apply ww|apply wm;intro _|apply wb
   exact T.dp this
def Um{f:Int}(h0:0≤f)(h1:f<256):(bG .i64 .and f 64==0)=decide (¬has f 64):=by
 rw[adX];simp only[beq_iff_eq,decide_eq_true_eq];rw[N7 h0 h1]
def QE{f:Int}(h0:0≤f)(h1:f<256):(bG .i64 .and f 128==0)=decide (¬has f 128):=by
 rw[adX];simp only[beq_iff_eq,decide_eq_true_eq];rw[JI h0 h1]
def KT[i:Lc (bn p) L (b,hs) f](hq:0≤q.flags∧q.flags<256)(hd:b.find q.aH=some d)(hc:b.find q.ar=some c)
 (h:T W L (K (.i (if 8≤d.flags∧¬has q.flags 64 then 30 else if 8≤c.flags∧¬has q.flags 128 then 31 else 0)))):T W L (iQ (some ⟨p,0,none⟩) (ai q) K):=by
 refine nd (p:=p) fun hg=>?_;have fd:=(hg.LW d (aey hd)).flags;have fc:=(hg.LW c (aey hc)).flags;unfold iQ
 repeat' first|apply ww|apply wm;intro _|apply wb|with_reducible refine rY ?_|fail
 rw[hd,hc];simp only[ad9,aec]
 repeat' first|apply ww|apply wm;intro _|apply wb
 rename_i r1 r2 r3;have j1:∀x:Bool,(x=true↔(8≤d.flags∧¬has q.flags 64))→T W (Sep.pt r3 (ak c)::Sep.pt r2 (ak d)::Sep.pt r1 (ai q)::L) (iQ.j1 K r3 r1 x):=by
  intro x hx;unfold iQ.j1;refine az (fun g=>?_) (fun g=>?_)
  ·rw[if_pos (hx.1 g)] at h;exact T.dp h
  rw[if_neg (fun hh=>by rw[hx.2 hh] at g;cases g)] at h
  repeat' first|apply ww|apply wm;intro _|apply wb
  rw[QD fc.1 fc.2];refine az (fun g1=>?_) (fun g1=>?_)
  ·have g1:=of_decide_eq_true g1
   repeat' first|apply ww|apply wm;intro _|apply wb
   rw[QE hq.1 hq.2];refine az (fun g2=>?_) (fun g2=>?_)
   ·rw[if_pos ⟨g1,of_decide_eq_true g2⟩] at h;exact T.dp h
   ·rw[if_neg (fun hh=>of_decide_eq_false g2 hh.2)] at h;exact T.dp h
  ·have g1:=of_decide_eq_false g1;rw[if_neg (fun hh=>g1 hh.1)] at h;exact T.dp h
 rw[QD fd.1 fd.2];refine az (fun g1=>?_) (fun g1=>?_)
 ·have g1:=of_decide_eq_true g1
  repeat' first|apply ww|apply wm;intro _|apply wb
  rw[Um hq.1 hq.2];exact j1 _ (by simp[g1])
 ·have g1:=of_decide_eq_false g1;exact j1 _ (by simp[g1])
end
end Go.Up
