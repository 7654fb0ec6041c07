/- Part of the proof: see the last text. -/
import Derived.Test.YtnffemlgkghcfaaGreatDoorPE
import Derived.Test.YtnffemlgkghcfaaGreatDoorPB
import Derived.Test.YtnffemlgkghcfaaGreatDoorPA
import Derived.RangeFuncRecord
import Derived.RangeFuncCalls
import Derived.OrdersIn
import Derived.TacticsIn
import Derived.RangeFuncOwn
import Derived.Test.YtnffemlgkghcfaaGreatDoorPD
import Derived.Test.YtnffemlgkghcfaaGreatDoorProg
import Derived.Test.YtnffemlgkghcfaaGreatDoorPC
import Derived.Laws.Externs
import Derived.Shelf.Strings.Builder2
import Derived.Shelf.Strings.Repeat
import Derived.Test.YtnffemlgkghcfaaGreatDoorRows
import Derived.ChangeSame
import Derived.MakeChecks
import Derived.LaidMore
set_option linter.all false
set_option maxRecDepth 100000
set_option synthInstance.maxSize 100000
open Array renaming replicate→aeI
open Bool renaming and_eq_true→aet,false_ne_true→ad4
open Go.IntKind renaming i64→adx
open Int renaming toNat_natCast→adB,eq_ofNat_of_zero_le→adL
open List renaming getElem?_eq_getElem→adA,length_append→adD,perm_append_comm→adJ,length_drop→adM,getElem_mem→adZ,getElem?_eq_some_iff→adC,getElem?_append_left→adY,length_map→ad1,getElem?_append_right→aea,map_cons→aeb,mem_append→aee,mem_map→aek,getElem?_map→aen,getElem?_drop→aeQ,mem_cons→aeS,getElem?_range→ae3,range→ae7,getElem?_cons_succ→adR,flatMap_cons→aeo,take_of_length_le→adS,cons_append→aeN,getElem?_take→ae1,nil_append→aed,Perm→ad2,map_nil→afa
open Nat renaming zero_le→adK,add_mul→aeU,zero_add→adE,le_refl→adG,mul_le_mul_right→aem,mul_comm→ae',sub_self→aeY,eq_of_beq_eq_true→ad',beq→aeX,le_of_ble_eq_true→adH
open Option renaming some→adU,map_some→ael
namespace Go.Up
open Go.Sep Go.Den Go.RowKit Go.Prog Go.Md Go.bI
def vV{α σ:Type}(f:σ→α→Int×σ)(lk:α→Bool):∀(n:Nat)(s:σ)(l:List α),(fX f lk n s l).1.length≤l.length
 |0,s,l=>adK _
 |n+1,s,[]=>adK _
 |n+1,s,x::l=>by
  have hle:=sQ (linked:=lk) (x::l);have hd:((x::l).drop (bu lk (x::l)).1).length=(x::l).length-(bu lk (x::l)).1:=adM;rw[fX];by_cases hw:(bu lk (x::l)).2=false
  ·rw[if_pos hw];dsimp only;rw[kq];exact hle
  rw[if_neg hw];cases gU f s ((x::l).take (bu lk (x::l)).1) 0 with
  |mk o s'=>
   cases o with
   |none=>
    have:=vV f lk n s' ((x::l).drop (bu lk (x::l)).1);dsimp only;rw[adD,kq];omega
   |some e=>
    have:=vV f lk n s ((x::l).drop (bu lk (x::l)).1);dsimp only;rw[adD,kq];omega
def HV(m:Model)(q:jG):(aK m q).2.1.length≤q.ag.length+q.aW.length:=by
 unfold aK;split
 ·exact adK _
 ·split
  ·have:=vV Model.make wu q.ag.length m q.ag;dsimp only;omega
  ·split
   ·have:=vV Model.oF wq q.aW.length m q.aW;dsimp only;omega
   ·exact adK _
def Out.short{m m2:Model}{q:jG}{e:Int}{res:List Int}{al:List aS}{tl:List Move}(h:Out m q e res al tl m2)(hg:Good (bo m))(hl:q.ag.length+q.aW.length≤150)(hi:q.ids.length≤100):res.length≤10000∧al.length≤10000∧tl.length≤10000:=by
 cases h with
 |ask hx=>
  have:q.ids.length≤16∨lV q=false∨q.op=6:=by
   by_cases h1:lV q=false
   ·exact .inr (.inl h1)
   ·by_cases h6:q.op=6
    ·exact .inr (.inr h6)
    ·left
     have zy:lV q=true:=by simpa using h1
     unfold lV at zy;by_cases LR:q.op=4∨q.op=5
     ·rw[if_pos LR,aet,decide_eq_true_eq,decide_eq_true_eq] at zy;exact zy.2
     ·rw[if_neg LR,if_neg h6] at zy;cases zy
  obtain⟨h1,h2⟩:=Rh hg this;exact⟨adK _,h1,h2⟩
 |bad _ _=>simp
 |done _ _ _=>
  have:=HV m q;exact⟨by omega,adK _,adK _⟩
 |not _ _ _ _=>simp
def UP{n k:Nat}{m:Model}{S:VS}{q:jG}(h:RI n k S)(hn:600≤n∧n≤4096)(hk:k<180)(hg:Good (bo m)):
 RI n (k+1) (wX n m S q).1∧Out m q (wX n m S q).2.2.1 (wX n m S q).2.2.2.1 (wX n m S q).2.2.2.2.1 (wX n m S q).2.2.2.2.2 (wX n m S q).2.1∧((wX n m S q).2.2.1=0∨(wX n m S q).2.2.1=1):=by
 unfold wX;cases he:eX q with
 |true=>
  rw[if_pos rfl];obtain⟨h1,h2,h3⟩:=SQ (m:=m) (q:=q) h hn hk hg he;cases hw:iA q with
  |false=>
   have e:=h2 hw;refine⟨h1,?_,?_⟩
   ·dsimp only;rw[e];exact .bad he hw
   ·dsimp only;rw[e];exact .inr rfl
  |true=>
   have e:=h3 hw;have ez:=Ga (m:=m) hw he;refine⟨h1,?_,?_⟩
   ·dsimp only;rw[e];dsimp only;rw[ez];exact .done he hw ez
   ·dsimp only;rw[e];exact .inl ez
 |false=>
  rw[if_neg (by decide)];refine⟨h.mono (by omega),.ask he,?_⟩;show(ask m q).1=0∨(ask m q).1=1;unfold ask;split
  ·exact .inr rfl
  ·split
   ·exact .inl rfl
   ·split<;>exact .inl rfl
section
variable {W:World} {L R M:LH} {K:VK} {X:WK} {q:jG} {s:sf} {p p2 v d n pb pj:Nat} {m m2 m3:Model} {mb kb nT jd:OA} {mc kc nS jc:Nat} {S S2:VS} {D:aA} {J:PJ} {g:Nat}
def T.re1{M1 M2 M3 A1 A2 A3 A4 V B J D C:HP}(h:T W (V::B::J::D::M1::M2::M3::R) X):T W (M1::M2::M3::A1::A2::A3::A4::V::B::J::D::C::R) X:=
 T.perm (L:=V::B::J::D::M1::M2::M3::A1::A2::A3::A4::C::R) (T.sub h (by exact nZ)) (adJ (l₁:=[M1,M2,M3,A1,A2,A3,A4]) (l₂:=[V,B,J,D])|>.append_right (C::R))
def T.re2{M1 M2 M3 O1 O2 O3 A V B J D C:HP}(h:T W (M1::M2::M3::O1::O2::O3::A::V::B::J::D::C::R) X):T W (A::O1::O2::O3::V::B::J::D::C::M1::M2::M3::R) X:=
 T.perm h ((adJ (l₁:=[A,O1,O2,O3,V,B,J,D,C]) (l₂:=[M1,M2,M3])|>.append_right R).trans ((adJ (l₁:=[A]) (l₂:=[O1,O2,O3])|>.append_right (V::B::J::D::C::R)).append_left [M1,M2,M3]))
def T.re3{A:HP}(h:T W (VL v d n pb pj m S (A::R)) X):T W (A::VL v d n pb pj m S R) X:=
 T.perm h (adJ (l₁:=[A]) (l₂:=[_,_,_,_])|>.append_right R)
def GG(G:pK W){sb:OA}{sc:Nat}{l:List Im}{sj rounds:Int}(hr:oz W [] uD 18 sb l)(hl:l.length≤maxLen)(A5:∀x∈l,GI W x)(h:T W L (K (.bool true))):T W L (av sj sb l.length sc rounds K):=by
 unfold av;refine Lp G ?_;refine qC ?_;refine Aa ?_;refine KX hr hl A5 fun b hb=>?_;refine qC ?_;have YU:T W L (av.j1 K sj rounds sb l.length sc true):=by
  unfold av.j1;exact h
 have ZT:T W L (av.j3 K sj rounds sb l.length sc true):=by
  unfold av.j3;exact YU
 have ZU:T W L (av.j2 K sj rounds sb l.length sc true):=by
  unfold av.j2;exact ZT
 cases b with
 |true=>exact ZU
 |false=>
 obtain⟨Pa,aaf⟩:=hb rfl;refine q8 ?_;by_cases uI:sj<600
 ·rw[decide_eq_true uI];exact ZU
 rw[decide_eq_false uI];unfold av.j2;refine q8 ?_;by_cases gN:sj>700
 ·rw[decide_eq_true gN];exact ZT
 rw[decide_eq_false gN];unfold av.j3;refine q8 ?_;refine az (fun g1=>YU) (fun g1=>?_);have g1:=of_decide_eq_false g1;by_cases VB:rounds>3
 ·rw[decide_eq_true VB];exact YU
 rw[decide_eq_false VB];clear YU ZU ZT;obtain⟨n,hn⟩:=adL (show 0≤sj by omega);subst hn;have T8:600≤n∧n≤4096:=by omega
 unfold av.j1;refine q8 ?_;refine MS fun d=>?_;refine u1 ?_;refine zU G (n:=n) (by omega) (by omega) (Il (by omega) (by omega)) (by decide) fun v pb pj r9=>?_;have aae:RI n 0 (xq n):=U' T8 rfl rfl rfl rfl rfl;show T W (VL v d n pb pj pE (xq n) L) _
 repeat' first|apply ww|apply wm;intro _|apply wb
 rename_i r1;show T W (Sep.pt r1 (yY pE none 0 none 0)::_) _;refine gB (e:=33) ?_;refine gB (e:=14) ?_;refine T.perm (L:=VL v d n pb pj pE (xq n) (ML r1 pE none 0 none 0 L)) ?_ ((adJ (l₁:=[own none 0 0 14 [],own none 0 0 33 [],Sep.pt r1 (yY pE none 0 none 0)]) (l₂:=[_,_,_,_])|>.append_right L).trans (((adJ (l₁:=[own none 0 0 14 [],own none 0 0 33 []]) (l₂:=[Sep.pt r1 (yY pE none 0 none 0)])).append_right L).append_left [_,_,_,_]));intro w ku;refine⟨fun vv w=>∃(i:Nat)(m:Model)(S:VS)(p:Nat)(mb:OA)(mc:Nat)(kb:OA)(kc:Nat),(i:Int)≤rounds∧RI n (i* l.length) S∧Md.Ground m∧vv=[.bool false,.p (some ⟨v,0,none⟩),.p (some ⟨p,0,none⟩),.i rounds,.i (i:Int)]∧St W w (VL v d n pb pj m S (ML p m mb mc kb kc L)),
  fun vs _=>match vs with|[_,_,_,_,.int _ k]=>rounds.toNat-k.toNat|_=>0,⟨0,pE,xq n,r1,none,0,none,0,by omega,by rw[Nat.zero_mul];exact aae,ql,rfl,ku⟩,?_⟩
 rintro b3 p3 p4 n4 n5 w2 ⟨i,m,S,p,mb,mc,kb,kc,hi,Qq,B5,e,gN⟩;cases e
 refine T.at ?_ gN;refine nd (p:=pb) (b:=bo m) (hs:=[]) fun mR=>?_;refine az (fun g2=>?_) (fun g2=>?_)
 ·have a8:(i:Int)<rounds:=of_decide_eq_true g2;have HH:i* l.length≤2* 60:=Nat.mul_le_mul (by omega) Pa;intro w3 qL;refine⟨fun vv w=>∃(j:Nat)(m:Model)(S:VS)(p:Nat)(mb:OA)(mc:Nat)(kb:OA)(kc:Nat),j≤l.length∧RI n (i* l.length+j) S∧Md.Ground m∧vv=[.bool false,.p (some ⟨v,0,none⟩),.p (some ⟨p,0,none⟩),.i rounds,.i (i:Int),.l sb l.length sc,.i (l.length:Int),.i (j:Int)]∧St W w (VL v d n pb pj m S (ML p m mb mc kb kc L)),
   fun vs _=>match vs with|[_,_,_,_,_,_,_,.int _ k]=>l.length-k.toNat|_=>0,⟨0,m,S,p,mb,mc,kb,kc,adK _,Qq,B5,rfl,qL⟩,?_⟩
  rintro b4 p5 p6 n6 n7 uF qg uE n8 n9 w4 ⟨j,m,S,p,mb,mc,kb,kc,hj,Qq,B5,e,th⟩;cases e
  refine T.at ?_ th;refine nd (p:=pb) (b:=bo m) (hs:=[]) fun mR=>?_;refine az (fun g3=>?_) (fun g3=>?_)
  ·have KN:j<l.length:=by have:=of_decide_eq_true g3;omega
   have e5:adx.wrap ((j:Int)+1)=((j+1:Nat):Int):=by rw[ah (by omega)];omega
   have gx:=adA KN;have hx:=A5 _ (adZ KN);have hp:=aaf _ (adZ KN);generalize l[j]=x at gx hx hp;refine kV (R:=[]) hr ⟨by omega,by omega⟩ rfl fun a ha=>?_;rw[adB];refine kT (R:=[]) hr ha gx (E0 x) ?_
   repeat' first|apply ww|apply wm;intro _|apply wb
   rename_i r2;rw[e5];refine az (fun g4=>?_) (fun g4=>?_)
   ·exact T.drop fun w5 h5=>⟨⟨j+1,m,S,p,mb,mc,kb,kc,KN,Qq.mono (by omega),B5,rfl,h5⟩,by show l.length-((j+1:Nat):Int).toNat<l.length-(j:Int).toNat;omega⟩
   ·repeat' first|apply ww|apply wm;intro _|apply wb
    refine T.re3 ?_;obtain⟨o1,o2,o3⟩:=UP (m:=m) (q:=x.q) Qq T8 (by omega) mR;obtain⟨s1,s2,s3⟩:=o2.short mR hp.1 hp.2;refine RG G B5 (Qq.ok T8 (by omega)) (Qq.YP T8 (by omega) mR) (by omega) (by omega) hx.req hx.ag hx.aW (by omega) (by omega) fun rb rc ab ac tb tc Qy=>?_;generalize wX n m S x.q=Z at o1 o2 o3 s1 s2 s3 Qy⊢;refine xa (by rfl) ?_
    repeat' first|apply ww|apply wm;intro _|apply wb
    rename_i r3;refine T.re2 ?_;refine Po mR B5 o2 s1 s2 s3 hx.req (by omega) (by omega) hx.ag hx.aW fun p2 nT nS jd jc R' zx=>?_;refine T.back zx ?_
    repeat' first|apply ww|apply wm;intro _|apply wb
    have fin:∀P:World→Prop,(∀w5,St W w5 (VL v d n pb pj Z.2.1 Z.1 (ML p2 Z.2.1 nT nS jd jc L))→P w5)→T W (ML p2 Z.2.1 nT nS jd jc (own rb Z.2.2.2.1.length rc 1 (Z.2.2.2.1.flatMap I1)::own ab Z.2.2.2.2.1.length ac 14 (Z.2.2.2.2.1.flatMap ak)::own tb Z.2.2.2.2.2.length tc 16 (Z.2.2.2.2.2.flatMap ai)::Sep.pt r3 (oo Z.2.2.1 rb Z.2.2.2.1.length rc ab Z.2.2.2.2.1.length ac tb Z.2.2.2.2.2.length tc)::VL v d n pb pj Z.2.1 Z.1 (Sep.pt r2 (uD x)::L))) P:=fun P hP=>T.re1 hP;refine az (fun g5=>?_) (fun g5=>?_)
    ·have g5:=bne_iff_ne.1 g5;have h1:Z.2.2.1=1:=by rcases o3 with o3|o3;exact absurd o3 g5;exact o3
     repeat' first|apply ww|apply wm;intro _|apply wb
     rw[h1];refine fx (by decide) ?_;rw[h1] at fin;exact fin _ fun w5 h5=>⟨⟨j+1,Z.2.1,Z.1,p2,nT,nS,jd,jc,KN,o1,Qy,rfl,h5⟩,by show l.length-((j+1:Nat):Int).toNat<l.length-(j:Int).toNat;omega⟩
    ·exact fin _ fun w5 h5=>⟨⟨j+1,Z.2.1,Z.1,p2,nT,nS,jd,jc,KN,o1,Qy,rfl,h5⟩,by show l.length-((j+1:Nat):Int).toNat<l.length-(j:Int).toNat;omega⟩
  ·have iM:j=l.length:=by have:=of_decide_eq_false g3;omega
   subst iM;have e6:adx.wrap ((i:Int)+1)=((i+1:Nat):Int):=by rw[ah (by omega)];omega
   rw[e6];exact fun w5 h5=>⟨⟨i+1,m,S,p,mb,mc,kb,kc,by omega,by rw[aeU,Nat.one_mul];exact Qq,B5,rfl,h5⟩,by show rounds.toNat-((i+1:Nat):Int).toNat<rounds.toNat-(i:Int).toNat;omega⟩
 ·have iM:(i:Int)=rounds:=by have:=of_decide_eq_false g2;omega
  have HH:i* l.length≤3* 60:=Nat.mul_le_mul (by omega) Pa;refine ME mR B5 ?_;rw[decide_eq_true (yL.refl m)];refine qC ?_;refine tw ?_;have ik:=Qq.ok T8 (by omega);obtain⟨sv,-⟩:=EI (m:=m) Qq T8 (by omega) mR;refine Om ik.ok ik.mC (by omega) (by omega) ik.aF ?_;rw[sv];refine na ?_;refine lh (by decide) ?_;refine ME mR B5 ?_;rw[decide_eq_true (yL.refl m)];refine qC ?_;refine T.sub h ?_;exact List.sublist_append_right [_,_,_,_,_,_,_] L
end
end Go.Up
namespace Go.Sep
open Go.Den Go.RowKit Go.ChangeShapes Go.WideShapes
inductive NK where
 |c(k:CK)
 |sl(ks:List CK)
def NK.is(W:World):NK→Value→Prop
 | .c k,v=>k.is v
 | .sl ks,v=>∃b n c xs,v=.slice b n c∧Ro W b n ks.length xs∧OG ks n xs∧n≤reachBytes∧n≤c
def LX(W:World)(ks:List NK)(cs:LV)(o:Nat):Prop:=∀j k,ks[j]?=some k→∃v,cs[o+j]?=some v∧k.is W v
def Ku(P:Program)(f:TypeId→Option (List NK)):Nat→List Field→Option (List NK)
 |_,[]=>some []
 |o,fd::r=>match f fd.type with
  |some a=>if fd.offset=o∧P.cellsOf fd.type=a.length then(Ku P f (o+a.length) r).map (a++·) else none
  |none=>none
def nk(P:Program):Nat→TypeId→Option (List NK)
 |0,_=>none
 |n+1,t=>match P.underlying t with
  |some (.int k)=>some [.c (.i k)]
  |some .bool=>some [.c .b]
  |some (.slice e)=>match flat P n e with
   |some ks=>if P.cellsOf e=ks.length∧0<P.bytesOf e then some [.sl ks] else none
   |none=>none
  |some (.struct fs)=>Ku P (nk P n) 0 fs.toList
  |_=>none
section
variable {H:Type} {enc:TypeId×Value→H} {P:Program} {w:World} {base:Nat} {spare:Nat→Bool} {held:Bool}
def Co{t e:TypeId}{N m:Nat}{cs:LV}{x:DataW H×List MemPlace}(Q:LV→Nat→Prop)(aak:∀xs cs o,(∀j,j<N→xs[o+j]?=cs[j]?)→Q cs 0→Q xs o)
 (hQ:∀n' cs x,DataW.trod enc P w base spare held n' e cs=some x→(∀n∈x.1.weights P e,n≤reachBytes)→cs.length=N→Q cs 0)
 (ht:P.underlying t=some (.slice e))(hc:P.cellsOf e=N)(hm:DataW.trod enc P w base spare held m t cs=some x)(hw:∀n∈x.1.weights P t,n≤reachBytes):
 ∃b n c xs,cs=[.slice b n c]∧Ro w b n N xs∧(∀i,i<n→Q xs (i* N))∧n≤maxLen∧n≤c∧n* P.bytesOf e≤reachBytes:=by
 rcases Go.Deep.open_slice ht hm with⟨rfl,rfl⟩|⟨a,n,c,k,n',D,Pl,rfl,hb,hl,hmx,hk,rfl,yy⟩
 ·exact⟨none,0,0,[],rfl,⟨by simp,fun _=>rfl,fun a h=>by cases h⟩,fun i h=>by omega,by decide,adG _,by simp⟩
 ·have hlk:n≤k:=by rw[hk];split<;>omega
  simp only[DataW.weights,ht] at hw;have mF:∀i,i<n→∀j,j<N→∃v,w.cell? (a.add (i* N+j))=some v:=fun i hi j hj=>by
   obtain⟨rm,h1,h2⟩:=yy i (by omega);obtain⟨_,h3,h4⟩:=World.cells?_some h1;rw[hc] at h3 h4;refine⟨rm[j],?_⟩;rw[←add_add,h4 j hj];simp[h3,hj]
  have wA:∀j,j<n* N→∃v,w.cell? (a.add j)=some v:=fun j hj=>by
   have FM:0<N:=by
    cases hks:N with
    |zero=>rw[hks] at hj;omega
    |succ x=>omega
   have h1:j/N<n:=by rw[Nat.div_lt_iff_lt_mul FM];exact hj
   have h2:j%N<N:=Nat.mod_lt _ FM;obtain⟨v,hv⟩:=mF _ h1 _ h2;refine⟨v,?_⟩;rw[←hv];congr 2;have:=Nat.div_add_mod j N;rw[ae'] at this;omega
  refine⟨some a,n,c,(ae7 (n* N)).map fun j=>(w.cell? (a.add j)).getD (.bool false),rfl,⟨by simp,fun h=>(by cases h),fun a' ha' j v hv=>?_⟩,fun i hi=>?_,by omega,hl,?_⟩
  ·cases ha'
   rw[aen,Option.map_eq_some_iff] at hv;obtain⟨j',GY,rfl⟩:=hv;obtain⟨a8,rfl⟩:=adC.1 GY;simp only[List.length_range] at a8;simp only[List.getElem_range];obtain⟨v,hv⟩:=wA j a8;rw[hv];rfl
  ·obtain⟨rm,h1,h2⟩:=yy i (by omega);obtain⟨_,h3,h4⟩:=World.cells?_some h1;rw[hc] at h3 h4;refine aak _ rm _ (fun j hj=>?_) (hQ n' rm (D i,Pl i) h2 (fun x hx=>hw x (by
    simp only[aeS,aee]
    refine .inr (.inl (tp ?_ x hx))
    exact aek.2 ⟨i,List.mem_range.2 hi,rfl⟩)) h3)
   have a8:i* N+j<n* N:=by
    have:(i+1)* N≤n* N:=aem _ hi;rw[aeU] at this;omega
   have hv:=h4 j hj;rw[aen,ae3 a8,ael,←add_add,hv];simp[h3,hj]
  ·have:=hw _ (List.mem_cons_self);simp only[ad1,List.length_range] at this;exact Nat.le_trans (aem _ (by omega)) this
def Typed.loc{ks:List CK}{xs cs:LV}{o:Nat}(h:∀j,j<ks.length→xs[o+j]?=cs[j]?)(ht:Typed ks cs 0):Typed ks xs o:=fun j k hk=>by
 obtain⟨v,hv,hi⟩:=ht j k hk;exact⟨v,by rw[h j (adC.1 hk).1,←hv,adE],hi⟩
def LX.loc{W:World}{ks:List NK}{xs cs:LV}{o:Nat}(h:∀j,j<ks.length→xs[o+j]?=cs[j]?)(ht:LX W ks cs 0):LX W ks xs o:=fun j k hk=>by
 obtain⟨v,hv,hi⟩:=ht j k hk;exact⟨v,by rw[h j (adC.1 hk).1,←hv,adE],hi⟩
def AL{f:TypeId→Option (List NK)}{m:Nat}{cs:LV}
 (hf:∀t ks cs x,f t=some ks→DataW.trod enc P w base spare held m t cs=some x→(∀n∈x.1.weights P t,n≤reachBytes)→LX w ks cs 0):
 ∀(fs:List Field)(o:Nat)(ks:List NK)(xs:List (DataW H×List MemPlace)),Ku P f o fs=some ks→
  (∀(i:Nat)(fd:Field),fs[i]?=some fd→DataW.trod enc P w base spare held m fd.type ((cs.drop fd.offset).take (P.cellsOf fd.type))=xs[i]?)→xs.length=fs.length→
  (∀n∈DataW.weightsEach P (fs.map (·.type)) (xs.map (·.1)),n≤reachBytes)→LX w ks cs o
 |[],o,ks,xs,h,_,_,_=>by
  simp only[Ku,adU.injEq] at h;subst h;intro j k hj;simp at hj
 |fd::r,o,ks,[],h,hx,hl,hw=>by simp at hl
 |fd::r,o,ks,x::xs,h,hx,hl,hw=>by
  simp only[Ku] at h;cases ha:f fd.type with
  |none=>simp[ha] at h
  |some a=>
   simp only[ha] at h;split at h
   ·rename_i hc;cases hb:Ku P f (o+a.length) r with
    |none=>simp[hb] at h
    |some b=>
     simp only[hb,ael,adU.injEq] at h;subst h;simp only[aeb,DataW.weightsEach,aee] at hw;have h1:=hf fd.type a _ x ha (by have:=hx 0 fd rfl;simpa using this) (fun n hn=>hw n (.inl hn));have h2:=AL hf r (o+a.length) b xs hb (fun i g hg=>by have:=hx (i+1) g (by simpa using hg);simpa using this) (by simpa using hl) (fun n hn=>hw n (.inr hn));intro j k hj;by_cases Ub:j<a.length
     ·rw[adY Ub] at hj;obtain⟨v,hv,hk⟩:=h1 j k hj;refine⟨v,?_,hk⟩;rw[hc.1,hc.2,adE,List.getElem?_take_of_lt Ub,aeQ] at hv;exact hv
     ·rw[aea (by omega)] at hj;obtain⟨v,hv,hk⟩:=h2 (j-a.length) k hj;refine⟨v,?_,hk⟩;rw[show o+j=o+a.length+(j-a.length) from by omega];exact hv
   ·cases h
def Fu:∀(f:Nat)(m:Nat)(t:TypeId)(ks:List NK)(cs:LV)(x:DataW H×List MemPlace),nk P f t=some ks→DataW.trod enc P w base spare held m t cs=some x→
 (∀n∈x.1.weights P t,n≤reachBytes)→LX w ks cs 0
 |0,_,_,_,_,_,h,_,_=>by simp[nk] at h
 |f+1,m,t,ks,cs,x,h,hx,hw=>by
  have one:∀(a:NK) v,a.is w v→LX w [a] [v] 0:=fun a v ha j k hj=>by
   cases j with
   |zero=>simp at hj;subst hj;exact⟨_,rfl,ha⟩
   |succ j=>simp at hj
  unfold nk at h;split at h
  ·rename_i k ht;cases h
   obtain⟨n,rfl,rfl,Z5⟩:=DataW.trod_int ht hx;exact one _ _ ⟨n,rfl,Z5⟩
  ·rename_i ht;cases h
   obtain⟨n,rfl,rfl⟩:=DataW.trod_bool ht hx;exact one _ _ ⟨n,rfl⟩
  ·rename_i e ht;split at h
   ·rename_i ks' hk;split at h
    ·rename_i hc;cases h
     obtain⟨b,n,c,xs,rfl,h1,h2,h3,h4,h5⟩:=Co (Typed ks') (fun _ _ _ a b=>b.loc a) (fun n' cs x h1 h2 _=>Ba f n' e ks' cs x hk h1 h2) ht hc.1 hx hw;exact one _ _ ⟨b,n,c,xs,rfl,h1,h2,Nat.le_trans (Nat.le_mul_of_pos_right n hc.2) h5,h4⟩
    ·cases h
   ·cases h
  ·rename_i fs ht;obtain⟨xs,n,rfl,rfl,hl,hlen,hf⟩:=DataW.trod_struct ht hx;refine AL (m:=n) (fun t ks cs x h1 h2 h3=>Fu f n t ks cs x h1 h2 h3) fs.toList 0 ks xs h (fun i fd hi=>hf i fd (by simpa using hi)) (by simpa using hlen) (fun n hn=>hw n ?_);simp only[DataW.weights,ht];exact hn
  ·cases h
def Ko{t e:TypeId}{f:Nat}{ks:List NK}{v:Value}{r:Reach}{b0:Nat}{d:DataW H}{ps:List MemPlace}(ht:P.underlying t=some (.slice e))(he:nk P f e=some ks)(hc:P.cellsOf e=ks.length)
 (y3:Value.okWide P w r b0 t v)(hd:DataW.Trod enc P w base spare held t v d ps)(hw:∀n∈d.weights P t,n≤reachBytes):
 ∃b n c xs,v=.slice b n c∧Ro w b n ks.length xs∧(∀i,i<n→LX w ks xs (i* ks.length))∧n≤maxLen∧n≤c:=by
 obtain⟨b,n,c,rfl⟩:=okWide_slice ht y3;obtain⟨m,hm⟩:=hd;obtain⟨b',n',c',xs,h0,h1⟩:=Co (LX w ks) (fun _ _ _ a b=>b.loc a) (fun n' cs x h1 h2 _=>Fu f n' e ks cs x he h1 h2) ht hc hm hw;simp[Value.cells] at h0;obtain⟨rfl,rfl,rfl⟩:=h0;exact⟨b,n,c,xs,rfl,h1.1,h1.2.1,h1.2.2.1,h1.2.2.2.1⟩
end
end Go.Sep
namespace Go.Up
open Go.Sep Go.Den Go.RowKit Go.Prog Go.Md Go.bI
abbrev kU:CK:=.i .u64
abbrev kI:CK:=.i .i64
def Rn:List CK:=[kU,kU,kU,kU,kU,kU,kU,kU,kU,kU,kI,kI,kI,kI]
def Qb:List CK:=[kU,kU,kU,kU,kU,kU,kU,kU,kU,kU,kI,kI,kI,kI,kI,kI]
def ZL:List NK:=[.c kI,.sl Rn,.sl Qb,.c kI,.sl [kU,kU],.c kU,.c kU,.c kI,.c kI,.c .b,.c .b,.c .b,.c kI]
def J1:List NK:=.c kI::(ZL++[.c kU,.c kI,.c kI,.c kI])
def Yv{xs:LV}{o j:Nat}{u v:Value}(h0:xs[o+j]?=some u)(h1:xs[o+(j+1)]?=some v)(hu:kU.is u)(hv:kU.is v):∃n,n<aO∧xs[o+j]?=(nm n)[0]?∧xs[o+(j+1)]?=(nm n)[1]?:=by
 obtain⟨a,rfl,ha⟩:=hu;obtain⟨b,rfl,hb⟩:=hv;simp[Lit.wf,IntKind.min,IntKind.max,IntKind.signed,IntKind.bits] at ha hb;obtain⟨x,rfl⟩:=adL (show 0≤a by omega);obtain⟨y,rfl⟩:=adL (show 0≤b by omega);refine⟨x* 18446744073709551616+y,by unfold aO;omega,?_,?_⟩
 ·rw[h0];show _=some (Value.int .u64 (((x* 18446744073709551616+y)/18446744073709551616:Nat):Int));rw[show(x* 18446744073709551616+y)/18446744073709551616=x from by omega]
 ·rw[h1];show _=some (Value.int .u64 (((x* 18446744073709551616+y)%18446744073709551616:Nat):Int));rw[show(x* 18446744073709551616+y)%18446744073709551616=y from by omega]
def acD{v:Value}(hv:kI.is v):∃n,v=.i n∧qZ n:=by
 obtain⟨n,rfl,hn⟩:=hv;refine⟨n,rfl,?_⟩;simp[Lit.wf,IntKind.min,IntKind.max,IntKind.signed,IntKind.bits] at hn;unfold qZ;omega
section
variable {xs:LV} {o j:Nat}
def A7{ks:List CK}(h:Typed ks xs o)(a:ks[j]?=some kU)(b:ks[j+1]?=some kU):∃n,n<aO∧xs[o+j]?=(nm n)[0]?∧xs[o+(j+1)]?=(nm n)[1]?:=by
 obtain⟨u,hu,h1⟩:=h _ _ a;obtain⟨v,hv,h2⟩:=h _ _ b;exact Yv hu hv h1 h2
def B8{ks:List CK}(h:Typed ks xs o)(a:ks[j]?=some kI):∃n,xs[o+j]?=some (.i n)∧qZ n:=by
 obtain⟨v,hv,h1⟩:=h _ _ a;obtain⟨n,rfl,hn⟩:=acD h1;exact⟨n,hv,hn⟩
def aaR(h:Typed Rn xs o):∃a,vy a∧∀j,j<Rn.length→xs[o+j]?=(ak a)[j]?:=by
 obtain⟨n0,b0,p0,q0⟩:=A7 (j:=0) h rfl rfl;obtain⟨n1,b1,p1,q1⟩:=A7 (j:=2) h rfl rfl;obtain⟨n2,b2,p2,q2⟩:=A7 (j:=4) h rfl rfl;obtain⟨n3,b3,p3,q3⟩:=A7 (j:=6) h rfl rfl;obtain⟨n4,b4,p4,q4⟩:=A7 (j:=8) h rfl rfl;obtain⟨i0,r0,s0⟩:=B8 (j:=10) h rfl;obtain⟨i1,r1,s1⟩:=B8 (j:=11) h rfl;obtain⟨i2,r2,s2⟩:=B8 (j:=12) h rfl;obtain⟨i3,r3,s3⟩:=B8 (j:=13) h rfl;refine⟨⟨n0,n1,n2,n3,n4,i0,i1,i2,i3⟩,⟨b0,b1,b2,b3,b4,s0,s1,s2,s3⟩,fun j hj=>?_⟩
 match j,hj with
 |0,_=>exact p0
 |1,_=>exact q0
 |2,_=>exact p1
 |3,_=>exact q1
 |4,_=>exact p2
 |5,_=>exact q2
 |6,_=>exact p3
 |7,_=>exact q3
 |8,_=>exact p4
 |9,_=>exact q4
 |10,_=>exact r0
 |11,_=>exact r1
 |12,_=>exact r2
 |13,_=>exact r3
 |j+14,h=>exact absurd h (by simp[Rn])
def aaQ(h:Typed Qb xs o):∃a,uY a∧∀j,j<Qb.length→xs[o+j]?=(ai a)[j]?:=by
 obtain⟨n0,b0,p0,q0⟩:=A7 (j:=0) h rfl rfl;obtain⟨n1,b1,p1,q1⟩:=A7 (j:=2) h rfl rfl;obtain⟨n2,b2,p2,q2⟩:=A7 (j:=4) h rfl rfl;obtain⟨n3,b3,p3,q3⟩:=A7 (j:=6) h rfl rfl;obtain⟨n4,b4,p4,q4⟩:=A7 (j:=8) h rfl rfl;obtain⟨i0,r0,s0⟩:=B8 (j:=10) h rfl;obtain⟨i1,r1,s1⟩:=B8 (j:=11) h rfl;obtain⟨i2,r2,s2⟩:=B8 (j:=12) h rfl;obtain⟨i3,r3,s3⟩:=B8 (j:=13) h rfl;obtain⟨i4,r4,s4⟩:=B8 (j:=14) h rfl;obtain⟨i5,r5,s5⟩:=B8 (j:=15) h rfl;refine⟨⟨n0,n1,n2,n3,n4,i0,i1,i2,i3,i4,i5⟩,⟨b0,b1,b2,b3,b4,s0,s1,s2,s3,s4,s5⟩,fun j hj=>?_⟩
 match j,hj with
 |0,_=>exact p0
 |1,_=>exact q0
 |2,_=>exact p1
 |3,_=>exact q1
 |4,_=>exact p2
 |5,_=>exact q2
 |6,_=>exact p3
 |7,_=>exact q3
 |8,_=>exact p4
 |9,_=>exact q4
 |10,_=>exact r0
 |11,_=>exact r1
 |12,_=>exact r2
 |13,_=>exact r3
 |14,_=>exact r4
 |15,_=>exact r5
 |j+16,h=>exact absurd h (by simp[Qb])
def gNm(h:Typed [kU,kU] xs o):∃n,n<aO∧∀j,j<2→xs[o+j]?=(nm n)[j]?:=by
 obtain⟨n,b,p,q⟩:=A7 (j:=0) h rfl rfl;refine⟨n,b,fun j hj=>?_⟩
 match j,hj with
 |0,_=>exact p
 |1,_=>exact q
end
def RX{α:Type}{W:World}{b:OA}{n e:Nat}{xs:LV}{g:α→LV}{l:List α}(hr:Ro W b n e xs)(hn:l.length=n)(hg:∀a,(g a).length=e)
 (hx:∀i a,l[i]?=some a→∀j,j<e→xs[i* e+j]?=(g a)[j]?):oz W [] g e b l:=fun w hw i x hi=>by
 have a8:=(adC.1 hi).1;cases b with
 |none=>have:=hr.2.1 rfl;omega
 |some a=>
  refine⟨a,rfl,fun j v hv=>?_⟩;have hj:j<e:=by rw[←hg x];exact(adC.1 hv).1
  rw[add_add];exact hr.cell rfl hw (by rw[hx i x hi j hj];exact hv)
def F5{α:Type}{g:α→LV}{e:Nat}(hg:∀a,(g a).length=e):∀{l:List α} {i:Nat} {a:α} {j:Nat},l[i]?=some a→j<e→(l.flatMap g)[i* e+j]?=(g a)[j]?
 |[],i,a,j,h,_=>by simp at h
 |x::l,0,a,j,h,hj=>by
  simp at h;subst h;rw[aeo,Nat.zero_mul,adE,adY (by rw[hg];exact hj)]
 |x::l,i+1,a,j,h,hj=>by
  rw[adR] at h;rw[aeo,aeU,Nat.one_mul,aea (by rw[hg];omega),hg,show i* e+e+j-e=i* e+j from by omega];exact F5 hg h hj
def Dz{α:Type}{W:World}{b:OA}{n e:Nat}{xs:LV}{g:α→LV}{ks:List CK}(q:α→Prop)(hk:ks.length=e)(hr:Ro W b n e xs)(he:OG ks n xs)(hg:∀a,(g a).length=e)
 (dec:∀o,Typed ks xs o→∃a,q a∧∀j,j<ks.length→xs[o+j]?=(g a)[j]?):∃l:List α,l.length=n∧oz W [] g e b l∧∀a∈l,q a:=by
 subst hk;obtain⟨l,h1,h2,h3⟩:=HW g q hg dec he hr.1;exact⟨l,h1,RX hr h1 hg fun i a hi j hj=>by rw[h2];exact F5 hg hi hj,h3⟩
def aaP{W:World}{xs:LV}{o:Nat}(h:LX W J1 xs o):∃x:Im,GI W x∧∀j,j<18→xs[o+j]?=(uD x)[j]?:=by
 have gi:∀j,J1[j]?=some (.c kI)→∃n,xs[o+j]?=some (.i n):=fun j hj=>by
  obtain⟨v,hv,n,rfl,-⟩:=h _ _ hj;exact⟨n,hv⟩
 have gb:∀j,J1[j]?=some (.c .b)→∃n,xs[o+j]?=some (.bool n):=fun j hj=>by
  obtain⟨v,hv,n,rfl⟩:=h _ _ hj;exact⟨n,hv⟩
 obtain⟨kind,h0⟩:=gi 0 rfl;obtain⟨op,h1⟩:=gi 1 rfl;obtain⟨now,h4⟩:=gi 4 rfl;obtain⟨v2,h2,b2,n2,c2,x2,rfl,r2,e2,m2,VP⟩:=h 2 _ rfl;obtain⟨v3,h3,b3,n3,c3,x3,rfl,r3,e3,m3,cc3⟩:=h 3 _ rfl;obtain⟨v5,h5,b5,n5,c5,x5,rfl,r5,e5,m5,cc5⟩:=h 5 _ rfl;obtain⟨u6,h6,i6⟩:=h 6 _ rfl;obtain⟨u7,h7,i7⟩:=h 7 _ rfl;obtain⟨fa,ba,p6,p7⟩:=Yv (j:=6) h6 h7 i6 i7;obtain⟨iw,h8⟩:=gi 8 rfl;obtain⟨rP,h9⟩:=gi 9 rfl;obtain⟨fd,Ut⟩:=gb 10 rfl;obtain⟨fc,h11⟩:=gb 11 rfl;obtain⟨fl,nA⟩:=gb 12 rfl;obtain⟨fm,h13⟩:=gi 13 rfl;obtain⟨v14,h14,mask,rfl,-⟩:=h 14 _ rfl;obtain⟨torn,h15⟩:=gi 15 rfl;obtain⟨cut,Zf⟩:=gi 16 rfl;obtain⟨n,h17⟩:=gi 17 rfl;obtain⟨la,a1,a2,a3⟩:=Dz vy rfl r2 e2 (g:=ak) (fun _=>rfl) fun o h=>aaR h;obtain⟨lt,t1,t2,t3⟩:=Dz uY rfl r3 e3 (g:=ai) (fun _=>rfl) fun o h=>aaQ h;obtain⟨li,i1,i2,-⟩:=Dz (fun _=>True) rfl r5 e5 (g:=nm) (fun _=>rfl) fun o h=>by
  obtain⟨n,_,hn⟩:=gNm h;exact⟨n,trivial,hn⟩
 have hm:reachBytes≤140737488355328:=by decide
 refine⟨⟨kind,⟨op,la,lt,now,li,fa,iw,rP,fd,fc,fl,fm⟩,⟨b2,c2,b3,c3,b5,c5⟩,mask,torn,cut,n⟩,⟨⟨a2,t2,i2,?_,?_,?_⟩,a3,t3,?_,?_⟩,fun j hj=>?_⟩
 ·show la.length≤c2;omega
 ·show lt.length≤c3;omega
 ·show li.length≤c5;omega
 ·show la.length≤_;omega
 ·show lt.length≤_;omega
 ·subst a1 t1 i1
  match j,hj with
  |0,_=>exact h0
  |1,_=>exact h1
  |2,_=>exact h2
  |3,_=>exact h3
  |4,_=>exact h4
  |5,_=>exact h5
  |6,_=>exact p6
  |7,_=>exact p7
  |8,_=>exact h8
  |9,_=>exact h9
  |10,_=>exact Ut
  |11,_=>exact h11
  |12,_=>exact nA
  |13,_=>exact h13
  |14,_=>exact h14
  |15,_=>exact h15
  |16,_=>exact Zf
  |17,_=>exact h17
  |j+18,h=>omega
def Zx{W:World}{b:OA}{n:Nat}{xs:LV}(hr:Ro W b n 18 xs)(he:∀i,i<n→LX W J1 xs (i* 18)):∃l:List Im,l.length=n∧oz W [] uD 18 b l∧∀x∈l,GI W x:=by
 have key:∀m,m≤n→∃l:List Im,l.length=m∧(∀i x,l[i]?=some x→∀j,j<18→xs[i* 18+j]?=(uD x)[j]?)∧∀x∈l,GI W x:=by
  intro m
  induction m with
  |zero=>exact fun _=>⟨[],rfl,fun i x h=>by simp at h,by simp⟩
  |succ m ih=>
   intro hm;obtain⟨l,h1,h2,h3⟩:=ih (by omega);obtain⟨x,hx,hc⟩:=aaP (he m (by omega));refine⟨l++[x],by simp[h1],fun i y hi=>?_,fun y hy=>?_⟩
   ·by_cases a8:i<l.length
    ·rw[adY a8] at hi;exact h2 i y hi
    ·rw[aea (by omega)] at hi;have e:i=m:=by
      have:=(adC.1 hi).1;simp at this;omega
     subst e;rw[h1,aeY] at hi;cases hi
     exact hc
   ·rcases aee.1 hy with h|h
    ·exact h3 y h
    ·simp at h;subst h;exact hx
 obtain⟨l,h1,h2,h3⟩:=key n (adG n);exact⟨l,h1,RX hr h1 (fun _=>rfl) h2,h3⟩
end Go.Up
namespace Go.Den
def xV(FF:Fence):Prop:=FF=Fence.wide∨∃l,FF=Fence.wide.inRound l
def xV.fn{FF:Fence}(h:xV FF)(f:FuncId):FF.fn f:=by rcases h with rfl|⟨l,rfl⟩<;>exact trivial
def xV.depth{FF:Fence}(h:xV FF):FF.depth=none:=by rcases h with rfl|⟨l,rfl⟩<;>rfl
def xV.calls{FF:Fence}(h:xV FF){n:Nat}{P:Program}{f:FuncId}{args:Array Value}{w:World}{R:Ending→World→Prop}(hc:Calls P f args w R):CallsIn FF n P f args w R:=by
 rcases h with rfl|⟨l,rfl⟩
 ·exact callsIn_wide.2 hc
 ·exact CallsIn.inRound l (callsIn_wide.2 hc)
def S3(F:Fn)(ds:List Deferred)(e:Env)(a:Act):Prop:=S2 F e {a with defers:=[]}∧a.defers=ds
def QI(F:Fn)(ds:List Deferred)(Q:Exit→Env→WK):Exit→Act→World→Prop:=fun ex a w=>(∃e,S3 F ds e a∧Q ex e w)∧∀c,ex≠.panic c
def S3.get{F:Fn}{ds:List Deferred}{e:Env}{a:Act}(h:S3 F ds e a){t:Nat}{v:Value}(hl:lk e t=some v):a.tmps[t]?=some v:=h.1.1.get t v hl
def S3.eval{F:Fn}{ds:List Deferred}{e:Env}{a:Act}(h:S3 F ds e a){x:Operand}{v:Value}(hx:ev e x=some v):a.eval x=v:=h.1.1.eval hx
def S3.nil{F:Fn}{ds:List Deferred}{e:Env}{a:Act}(h:S3 F ds e a):S3 F ds [] a:=⟨⟨⟨h.1.1.size,rfl,fun t v hl=>by simp[lk] at hl⟩,h.1.2⟩,h.2⟩
def S3.cons{F:Fn}{ds:List Deferred}{e:Env}{a:Act}{t:Nat}{v:Value}(hv:a.tmps[t]?=some v)(h:S3 F ds e a):S3 F ds ((t,v)::e) a:=
 ⟨⟨⟨h.1.1.size,rfl,fun s u hl=>by
   rw[sw] at hl
   split at hl
   ·rename_i HA;subst HA;cases hl;exact hv
   ·exact h.1.1.get s u hl⟩,h.1.2⟩,h.2⟩
def S3.start{F:Fn}{a:Act}(hC:F.C=[])(hn:a.tmps.size=F.n):S3 F a.defers [] a:=
 ⟨⟨⟨hn,rfl,fun t v hl=>by simp[lk] at hl⟩,⟨hn,rfl,fun t v hl=>by rw[hC] at hl;simp[lk] at hl⟩⟩,rfl⟩
def MQ{F:Fn}{ds:List Deferred}{w:World}{e:Env}{a:Act}{d:Option Tmp}{v:Value}{K:Env→WK}(hs:S3 F ds e a)(h:pt F.n F.C e d v K w):∃e',S3 F ds e' (a.put d v)∧K e' w:=by
 obtain⟨e',h1,h2⟩:=qj (a:={a with defers:=[]}) hs.1 h;refine⟨e',⟨?_,?_⟩,h2⟩
 ·cases d<;>exact h1
 ·cases d<;>exact hs.2
def S3.put{F:Fn}{ds:List Deferred}{e:Env}{a:Act}{t:Tmp}{v:Value}(w:World)(hs:S3 F ds e a)(ht:(Nat.blt t F.n&&cover F.C t)=true):S3 F ds ((t,v)::e) (a.put (some t) v):=by
 obtain⟨e',h1,h2⟩:=MQ (d:=some t) (v:=v) (K:=fun e' _=>e'=(t,v)::e) (w:=w) hs (by simp only[pt,ht,cond_true]);subst h2;exact h1
def Ny{F:Fn}{ds:List Deferred}{w:World}{e:Env}{a:Act}{ops:Array Oper}{o:Oper}{run skip:Env→WK}{X:Prop}(hs:S3 F ds e a)(h:guarded ops o e run skip w)
 (hr:∀e',S3 F ds e' a→Region.wanted o (yielded ops a.tmps)=true→run e' w→X)
 (hk:∀e',S3 F ds e' a→Region.wanted o (yielded ops a.tmps)=false→skip e' w→X):X:=
 o7 (a:={a with defers:=[]}) hs.1 h (fun e' h1=>hr e' ⟨h1,hs.2⟩) (fun e' h1=>hk e' ⟨h1,hs.2⟩)
def S3.zip{F:Fn}{ds:List Deferred}{e:Env}{a:Act}(hs:S3 F ds e a){l:List (Nat×Value)}{vs:LV}(h:rC e l=some vs):S3 F ds (vH l vs F.C) a:=⟨S2.zip (a:={a with defers:=[]}) hs.1 h,hs.2⟩
section
variable {F:Fn} {ds:List Deferred} {P:Program} {w:World} {e:Env} {a:Act} {ops:Array Oper} {FF:Fence} {n:Nat}
def To.P'{o:Oper}{K:VK}(h:To P (execOp a.eval o) w K):∀c,o.op≠.defer c:=by
 intro c hc;have key:∀r,(execOp a.eval o).run P w=.ok r w→True:=fun _ _=>trivial;have hx:execOp a.eval o=(do pure (.defer (←resolve a.eval c o.type))):=by simp only[execOp,hc]
 rw[hx] at h;unfold To at h;simp only[Sem.run_bind] at h;cases hr:(resolve a.eval c o.type).run P w with
 |ok d w1=>simp[hr,Result.andThen,Sem.run_pure] at h
 |halt x w1=>simp[hr,Result.andThen] at h
def G4(hW:xV FF){o:Oper}{K:VK}{next:Act→World→Prop}{Q:Exit→Act→World→Prop}(h:To P (execOp a.eval o) w K)(hk:∀v w',K v w'→next (a.put o.dst v) w'):o.wpIn FF n P a w next Q:=by
 refine⟨fun f _=>hW.fn f,?_⟩;rw[Oper.semAt_eq _ _ _ h.P'];rcases h with⟨v,w',hr,h⟩|⟨w',hr,h⟩|⟨g,args,w',hr,h⟩
 ·rw[hr];exact hk _ _ h
 ·rw[hr];exact hk _ _ h
 ·rw[hr];refine⟨fun hd=>(by rw[hW.depth] at hd;cases hd),?_⟩;refine CallsIn.mono (hW.calls h) fun e VZ ⟨v,he,hv⟩=>?_;subst he;exact hk _ _ hv
def xg(hW:xV FF)(hF:Ok F){Q:Exit→Act→World→Prop}{K:Env→WK}{tail:List Nat}(hK:∀e a w,S3 F ds e a→K e w→wpOpsIn FF n F.P ops Q tail a w):
 ∀(l:List Nat)(os:List Oper)(e:Env)(a:Act)(w:World),l.length=os.length→(∀k i:Nat,l[k]?=some i→ops[i]?=os[k]?)→S3 F ds e a→tC F ops os K e w→wpOpsIn FF n F.P ops Q (l++tail) a w
 |[],[],e,a,w,_,_,hs,h=>hK e a w hs h
 |[],_::_,_,_,_,hl,_,_,_=>by simp at hl
 |_::_,[],_,_,_,hl,_,_,_=>by simp at hl
 |i::l,o::os,e,a,w,hl,hi,hs,h=>by
  have hio:ops[i]?=some o:=hi 0 i rfl;have rest:=fun e a w=>xg hW hF hK l os e a w (by simpa using hl) (fun(k j:Nat)(hk:l[k]?=some j)=>hi (k+1) j (by simpa using hk));rw[aeN,wpOpsIn_cons];unfold wpOpIn;simp only[hio];refine Ny (F:=F) hs (uO h) (fun e' dh hw hr=>?_) (fun e' dh hw hr=>?_)
  ·rw[if_pos hw];refine G4 (a:=a) hW (AF (a:={a with defers:=[]}) hF.eqs hF.Cl dh.1.1 hr) fun v w' hv=>?_;obtain⟨NP,tf,hk⟩:=MQ dh hv;exact rest _ _ _ tf hk
  ·rw[if_neg (by rw[hw];exact ad4)];refine⟨fun f _=>hW.fn f,?_⟩;obtain⟨NP,tf,hk⟩:=MQ dh hr;exact rest _ _ _ tf hk
def Cu(hW:xV FF)(hF:Ok F){id:Nat}{Q:Exit→Act→World→Prop}{K:Env→WK}(k:Nat)(hk:k≤ops.size)(hs:S3 F ds e a)
 (h:tC F ops (ops.toList.take k) K e w)(hK:∀e a w,S3 F ds e a→K e w→wpOpsIn FF n F.P ops Q (List.range' k (ops.size-k)) a w):(Code.region id ops false).wpIn FF n F.P Q a w:=by
 refine wpIn_region ?_;have e1:ae7 ops.size=List.range' 0 k++List.range' k (ops.size-k):=by
  rw[List.range_eq_range'];have:=List.range'_append_1 (s:=0) (m:=k) (n:=ops.size-k);rw[adE] at this;rw[this];congr 1;omega
 rw[e1];refine xg hW hF hK _ (ops.toList.take k) e a w (by simp;omega) (fun j i hj=>?_) hs h;have GY:j<k:=by have:=(adC.1 hj).1;simpa using this
 rw[List.getElem?_range'] at hj
 ·cases hj
  rw[ae1,if_pos GY];simp
 ·exact GY
def Pq(hW:xV FF)(hF:Ok F){Q:Exit→Act→World→Prop}{K:Env→WK}(k:Nat)(hk:k≤ops.size)(hs:S3 F ds e a)
 (h:tC F ops (ops.toList.drop k) K e w)(hK:∀e a w,S3 F ds e a→K e w→Q .normal a w):wpOpsIn FF n F.P ops Q (List.range' k (ops.size-k)) a w:=by
 have:=xg (FF:=FF) (n:=n) (Q:=Q) (tail:=[]) hW hF (fun e a w hs hk=>hK e a w hs hk) (List.range' k (ops.size-k)) (ops.toList.drop k) e a w (by simp) (fun j i hj=>?_) hs h
 ·simpa using this
 ·have GY:j<ops.size-k:=by have:=(adC.1 hj).1;simpa using this
  rw[List.getElem?_range'] at hj
  ·cases hj
   rw[aeQ];simp
  ·exact GY
def drawn:Code→Bool
 | .region _ _ d=>d
 | .seq x y=>drawn x||drawn y
 | .cond _ x y=>drawn x||drawn y
 | .block _ c=>drawn c
 | .loop c=>drawn c
 |_=>false
def UQ(hW:xV FF)(hF:Ok F):∀(c:Code)(Q:Exit→Env→WK)(e:Env)(a:Act)(w:World),drawn c=false→S3 F ds e a→den F c Q e w→c.wpIn FF n F.P (QI F ds Q) a w:=by
 intro c
 induction c with
 |skip=>intro Q e a w _ hs h;exact wpIn_skip ⟨⟨e,hs,h⟩,by simp⟩
 |ret=>intro Q e a w _ hs h;exact wpIn_ret ⟨⟨e,hs,h⟩,by simp⟩
 |exit i=>intro Q e a w _ hs h;exact wpIn_exit ⟨⟨e,hs,h⟩,by simp⟩
 |seq x y ZX ZW=>
  intro Q e a w hd hs h;simp only[drawn,Bool.or_eq_false_iff] at hd;refine wpIn_seq (wpIn_mono (ZX _ e a w hd.1 hs h) ?_);rintro ex a' w' ⟨⟨e',dh,hq⟩,hp⟩;cases ex<;>simp only[J5] at hq
  case normal=>exact ZW Q e' a' w' hd.2 dh hq
  all_goals exact⟨⟨e',dh,hq⟩,hp⟩
 |cond x c1 c2 WI OO=>
  intro Q e a w hd hs h;simp only[drawn,Bool.or_eq_false_iff] at hd;simp only[den] at h;cases hx:ev e x with
  |none=>simp only[hx,no] at h
  |some v=>
   cases v<;>simp only[hx,no] at h
   rename_i b;cases b with
   |true=>exact wpIn_cond_true (hs.eval hx) (WI Q e a w hd.1 hs h)
   |false=>exact wpIn_cond_false (hs.eval hx) (OO Q e a w hd.2 hs h)
 |block i c ih=>
  intro Q e a w hd hs h;refine wpIn_block (wpIn_mono (ih _ e a w hd hs h) ?_);rintro ex a' w' ⟨⟨e',dh,hq⟩,hp⟩;cases ex<;>simp only[Ie] at hq
  case exit j=>
   simp only[Exit.inBlock];cases hb:aeX j i with
   |true=>rw[if_pos (ad' hb)];simp only[hb,cond_true] at hq;exact⟨⟨e',dh,hq⟩,by simp⟩
   |false=>
    have ji:j≠i:=fun h=>by simp[h] at hb
    rw[if_neg ji];simp only[hb,cond_false] at hq;exact⟨⟨e',dh,hq⟩,by simp⟩
  all_goals exact⟨⟨e',dh,hq⟩,hp⟩
 |loop c ih=>
  intro Q e a w hd hs h;simp only[den] at h;cases hl:JL F.Ll (key c) with
  |none=>simp only[hl,no] at h
  |some l=>
   simp only[hl] at h;cases hv:rC e l with
   |none=>simp only[hv,no] at h
   |some vs=>
    simp only[hv] at h;obtain⟨I,μ,h0,HE⟩:=h;have Nh:=(kW hs.1.1 hv).2.1;refine wpIn_loop (fun a w=>S3 F ds (vH l (l.map fun p=>a.tmps.getD p.1 undef) F.C) a∧I (l.map fun p=>a.tmps.getD p.1 undef) w∧∀f,By (l.map (·.2)) f→f (l.map fun p=>a.tmps.getD p.1 undef))
     (fun a w=>μ (l.map fun p=>a.tmps.getD p.1 undef) w) ?_ ?_
    ·rw[←Nh];exact⟨hs.zip hv,h0,(kW hs.1.1 hv).2.2⟩
    ·intro a1 w1 ⟨uI,hI1,hU⟩;have hr:=hU _ HE w1 hI1;refine wpIn_mono (ih _ _ a1 w1 hd uI hr) ?_;rintro ex a' w' ⟨⟨e',dh,hq⟩,hp⟩;cases ex<;>simp only[J5] at hq
     case normal=>
      simp only[M'] at hq;cases yr:rC e' l with
      |none=>simp only[yr,no] at hq
      |some BK=>
       simp only[yr] at hq;have HF:=(kW dh.1.1 yr).2.1;simp only[Exit.then];rw[←HF];exact⟨⟨dh.zip yr,hq.1,(kW dh.1.1 yr).2.2⟩,hq.2⟩
     all_goals exact⟨⟨e',dh,hq⟩,hp⟩
 |region id ops draw=>
  intro Q e a w hd hs h;simp only[drawn] at hd;subst hd;simp only[den,cond_false] at h;refine Cu hW hF ops.size (adG _) (K:=fun e w=>Q .normal e w) hs (by rw[adS (by simp)];exact h) (fun e a w hs hk=>?_);rw[aeY];exact⟨⟨e,hs,hk⟩,by simp⟩
 |_=>intro Q e a w _ hs h;exact h.elim
def zn(hW:xV FF)(hF:Ok F){c:Code}{Q:Exit→Act→World→Prop}(hd:drawn c=false)(hs:S3 F ds e a)
 (h:den F c (fun ex e w=>∀a,S3 F ds e a→Q ex a w) e w):c.wpIn FF n F.P Q a w:=
 wpIn_mono (UQ hW hF c _ e a w hd hs h) (by rintro ex a' w' ⟨⟨e',dh,hq⟩,-⟩;exact hq a' dh)
def u9(hW:xV FF)(hF:Ok F){x y:Code}{Q:Exit→Act→World→Prop}(hd:drawn x=false)(hs:S3 F ds e a)
 (h:den F x (fun ex e w=>∀a,S3 F ds e a→Exit.then (y.wpIn FF n F.P Q) Q ex a w) e w):(x.seq y).wpIn FF n F.P Q a w:=
 wpIn_seq (zn hW hF hd hs h)
end
def A9:Code→Code| .seq x _=>x|c=>c
def te:Code→Code| .seq _ y=>y|c=>c
def YV:Code→Code| .block _ c=>c| .loop c=>c|c=>c
def acJ:Code→Code| .rangeFunc _ _ a _=>a|c=>c
def acG:Code→Code| .rangeFunc _ _ _ b=>b|c=>c
def AB:Code→Array Oper| .region _ ops _=>ops|_=>#[]
end Go.Den
namespace Go.Den
open Go.RowKit Go.Sep
section
variable {FF:Fence} {n:Nat} {P:Program} {a:Act} {w:World} {Q:Exit→Act→World→Prop}
def xv{J:Nat→Prop}(h:∃k,J k):∃m,J m∧∀k,J k→m≤k:=by
 obtain⟨k,hk⟩:=h
 induction k using Nat.strongRecOn with
 |_ k ih=>
  by_cases hx:∃j,j<k∧J j
  ·obtain⟨j,hj,hJ⟩:=hx;exact ih j hj hJ
  ·refine⟨k,hk,fun j hJ=>?_⟩;rcases Nat.lt_or_ge j k with h|h
   ·exact absurd ⟨j,h,hJ⟩ hx
   ·exact h
def EF{c:Code}(J:Nat→Act→World→Prop)(h0:∃k,J k a w)
 (hr:∀k a w,J k a w→c.wpIn FF n P (Exit.then (fun a' w'=>∃j,j<k∧J j a' w') Q) a w):(Code.loop c).wpIn FF n P Q a w:=by
 classical
 let μ:Act→World→Nat:=fun a w=>if h:∃k,J k a w then Classical.choose (xv h) else 0
 have hμ:∀{a w}(h:∃k,J k a w),J (μ a w) a w∧∀k,J k a w→μ a w≤k:=fun{a w} h=>by
  have e:μ a w=Classical.choose (xv h):=dif_pos h;rw[e];exact Classical.choose_spec (xv h)
 refine wpIn_loop (fun a w=>∃k,J k a w) μ h0 fun a w h=>?_;refine wpIn_mono (hr _ a w (hμ h).1) fun ex a' w' hq=>?_;cases ex<;>first|exact hq|skip
 obtain⟨j,hj,hJ⟩:=hq;exact⟨⟨j,hJ⟩,Nat.lt_of_le_of_lt ((hμ ⟨j,hJ⟩).2 j hJ) hj⟩
def BS{o:Oper}{x:Operand}{xs:Array Operand}{ts:Array TypeId}{l:Nat}(ho:o.op=.call {callee:=.value x,args:=xs,argTypes:=ts})(hx:a.eval x=.func (.yield l) #[] #[]):
 (execOp a.eval o).run P w=(Instr.yield l (xs.map a.eval)).run P w:=by
 simp only[execOp,ho,resolve,Deferred.ofValue,hx,Sem.run_bind,Sem.run_pure,Result.andThen_ok,invoke,Array.empty_append]
def MJ(hW:FF=Fence.wide){g:Operand}{ps:Array Tmp}{assign body:Code}{gf:Nat}{lb:Array Value}(hg:a.eval g=.func (.func gf) #[] lb)
 {fg:Func}(h1:P.funcs[gf]?=some fg)(h2:(fg.name== "runtime.NumGoroutine")=false)(h3:fg.body.isNone=false)
 (h:∀fn,CallsIn FF (n-1) P gf (#[.func (.yield (w.heap.size+1)) #[] #[]]++lb) ((w.alloc (.deferred (some []))).alloc (.loop {state:=.ready,pending:=none,fn,tmps:=a.tmps,params:=ps,assign,body,defers:=w.heap.size}))
  (rangePost FF n P (w.heap.size+1) Q {a with defers:={target:=.collected w.heap.size,args:=#[]}::a.defers})):(Code.rangeFunc g ps assign body).wpIn FF n P Q a w:=by
 subst hW;refine wpIn_rangeFunc ?_;intro fn Y8;obtain⟨W1,hW1⟩:∃W1,(w.alloc (.deferred (some []))).alloc (.loop {state:=.ready,pending:=none,fn:=fn,tmps:=a.tmps,params:=ps,assign:=assign,body:=body,defers:=w.heap.size})=W1:=⟨_,rfl⟩;have h:=h fn;rw[hW1] at h;refine⟨w.heap.size+1,[{target:=.collected w.heap.size,args:=#[]}],W1,{target:=.fn (.func gf) lb,args:=#[.func (.yield (w.heap.size+1)) #[] #[]]},W1,gf,
  #[.func (.yield (w.heap.size+1)) #[] #[]]++lb,W1,?_,?_,?_,?_,?_,?_⟩
 ·rw[←hW1];exact run_enterLoop_outer _ _ _ _ _
 ·simp only[resolve,hg];simp[go_sem]
 ·intro f' Ue;exact trivial
 ·simp only[invoke];exact vT h1 h2 h3 _
 ·intro hd;cases hd
 ·simpa only[aeN,aed] using h
end
end Go.Den
namespace Go.Sep
open Go.Den Go.RowKit
def L5{w:World}{b:Nat}{o:Obj}(hb:b<w.heap.size)(ho:∀c t fz,o≠.cells c t fz):view (w.putObj b o) b=some (.obj o):=by
 unfold view;rw[World.putObj_heap_same hb];cases o<;>first|rfl|exact absurd rfl (ho _ _ _)
def St.Wu{W w:World}{L:LH}(h:St W w L)(o:Obj)(ho:∀c t fz,o≠.cells c t fz):St W (w.alloc o) (ob w.heap.size o::L):=by
 refine h.Wv o (x:=.obj o) ?_;unfold view;rw[World.alloc_heap_new];cases o<;>first|rfl|exact absurd rfl (ho _ _ _)
def St.put{W w:World}{L:LH}{k b:Nat}{o:Obj}(o':Obj)(h:St W w L)(hk:L[k]?=some (ob b o))(ho:∀c t fz,o'≠.cells c t fz):St W (w.putObj b o') (L.set k (ob b o')):=by
 obtain⟨h1,h2⟩:=h.obj hk;have a8:b<w.heap.size:=(Array.getElem?_eq_some_iff.1 h1).1;refine h.RJ hk ⟨h.1.os,h.1.tape,h.1.output,by rw[World.putObj_size];exact h.1.size,fun j hj=>?_⟩ (L5 a8 ho) fun j hj _=>World.putObj_heap_other hj;rw[World.putObj_heap_other (by omega)];exact h.1.block j hj
end Go.Sep
namespace Go.Proofs.YtnffemlgkghcfaaGreatDoor
open Go.Den Go.Prog Go.RowKit
noncomputable def Zj:Ek:=[(140,cG.u),(141,px.u),(142,cw.u)]
noncomputable abbrev Ev:Den.Fn:=⟨Tryz.prog,Zj,[],20,[],[]⟩
noncomputable def VQ:Code:=(Tryz.f82.body).getD .skip
noncomputable def q0:Code:=A9 VQ
noncomputable def q1:Code:=A9 (te VQ)
noncomputable def q2:Code:=A9 (te (te VQ))
noncomputable def q3:Code:=A9 (A9 (te (te (te VQ))))
noncomputable def rf:Code:=YV (te (A9 (te (te (te VQ)))))
noncomputable def JK:Code:=acJ rf
noncomputable def bd:Code:=acG rf
noncomputable def q7:Code:=A9 (te (te (te (te VQ))))
def UU:Tryz.f82.body=some (.seq q0 (.seq q1 (.seq q2 (.seq (.seq q3 (.block 0 (.rangeFunc (.tmp 11) #[12] JK bd))) (.seq q7 .ret))))):=by kernel_rfl
def Ec:drawn q0=false∧drawn q1=false∧drawn q2=false∧drawn q3=false∧drawn JK=false∧drawn bd=false∧drawn q7=false:=⟨by kernel_rfl,by kernel_rfl,by kernel_rfl,by kernel_rfl,by kernel_rfl,by kernel_rfl,by kernel_rfl⟩
def n82:Tryz.f82.ntmps=20∧Tryz.f82.results=#[.tmp 4]:=⟨by kernel_rfl,by kernel_rfl⟩
def d0(Q:Exit→Env→WK)(p:OA)(n:Int):den Ev q0 Q [(1,.i n),(0,.pointer p)]=mk [.pointer p] (fun r=>Q .normal [(4,.i 0),(2,.pointer (some (ad r 0))),(1,.i n),(0,.pointer p)]):=by kernel_rfl
def d1(Q:Exit→Env→WK)(r:Nat)(n:Int)(e:Env):den Ev q1 Q ((4,.i 0)::(2,.pointer (some (ad r 0)))::(1,.i n)::e)=
 ld (ad r 0) (xP fun p=>cG p n (x0 (Q .normal ((9,.tuple ⟨[]⟩)::(8,.i n)::(7,.pointer p)::(4,.i 0)::(2,.pointer (some (ad r 0)))::(1,.i n)::e)))):=by kernel_rfl
def d2(Q:Exit→Env→WK)(e:Env):den Ev q2 Q e=mk [.i 0] (fun r=>st (ad r 0) (.i 0) (Q .normal ((5,.pointer (some (ad r 0)))::e))):=by kernel_rfl
def d3(Q:Exit→Env→WK)(r5 r:Nat)(v9 v8 v7 v4:Value)(e:Env):den Ev q3 Q ((5,.pointer (some (ad r5 0)))::(9,v9)::(8,v8)::(7,v7)::(4,v4)::(2,.pointer (some (ad r 0)))::e)=
 ld (ad r 0) (xP fun p=>px p (fun v=>Q .normal ((11,v)::(10,.pointer p)::(5,.pointer (some (ad r5 0)))::(9,v9)::(8,v8)::(7,v7)::(4,v4)::(2,.pointer (some (ad r 0)))::e))):=by kernel_rfl
def das(Q:Exit→Env→WK)(cs:LV)(e:Env):den Ev JK Q ((12,.agg ⟨cs⟩)::e)=mk [.u 0,.u 0,.u 0,.u 0,.u 0,.u 0,.u 0,.u 0,.u 0,.u 0,.i 0,.i 0,.i 0,.i 0,.i 0,.i 0] (fun r=>bl (cs.length=16) (iN (ad r 0) cs (Q .normal ((6,.pointer (some (ad r 0)))::(12,.agg ⟨cs⟩)::e)))):=by kernel_rfl
def dbd(Q:Exit→Env→WK)(r6 r5 r2:Nat)(cs:LV)(e:Env):den Ev bd Q ((6,.pointer (some (ad r6 0)))::(12,.agg ⟨cs⟩)::(5,.pointer (some (ad r5 0)))::(2,.pointer (some (ad r2 0)))::e)=
 ld (ad r2 0) (xP fun p=>aj (ad r6 0) 16 (fun Q0=>bl True (cw p Q0 [.u 0,.u 0] 4 (x0 (ld (ad r5 0) (xI .i64 fun n=>st (ad r5 0) (.i (adx.wrap (n+1))) (Q .normal ((18,.i (adx.wrap (n+1)))::(17,.i n)::(16,.tuple ⟨[]⟩)::(15,.agg ⟨[.u 0,.u 0]⟩)::(14,.agg ⟨Q0⟩)::(13,.pointer p)::(6,.pointer (some (ad r6 0)))::(12,.agg ⟨cs⟩)::(5,.pointer (some (ad r5 0)))::(2,.pointer (some (ad r2 0)))::e)))))))):=by kernel_rfl
def d7(Q:Exit→Env→WK)(r5:Nat)(e:Env):den Ev q7 Q ((5,.pointer (some (ad r5 0)))::e)=ld (ad r5 0) (xI .i64 fun n=>Q .normal ((4,.i n)::(19,.i n)::(5,.pointer (some (ad r5 0)))::e)):=by kernel_rfl
noncomputable def U7:Ek:=[(194,cX.u)]
noncomputable abbrev uL:Den.Fn:=⟨Tryz.prog,U7,[],22,[],[]⟩
noncomputable def YA:Code:=(Tryz.f193.body).getD .skip
noncomputable def s0:Code:=A9 YA
noncomputable def lb:Code:=YV (YV (te YA))
noncomputable def s1:Code:=A9 lb
noncomputable def s3:Code:=A9 (YV (A9 (te lb)))
noncomputable def s4:Code:=te (te lb)
def Q9:Tryz.f193.body=some (.seq s0 (.block 0 (.loop (.seq s1 (.seq (.block 1 (.seq (.region 3 (AB s3) false) (.cond (.tmp 20) .ret .skip))) s4))))):=by kernel_rfl
def Bf:drawn s0=false∧drawn s1=false∧drawn s4=false:=⟨by kernel_rfl,by kernel_rfl,by kernel_rfl⟩
def n193:Tryz.f193.ntmps=22∧Tryz.f193.results=#[]:=⟨by kernel_rfl,by kernel_rfl⟩
def ds0(Q:Exit→Env→WK)(y:Value)(r1:Nat):den uL s0 Q [(1,.pointer (some (ad r1 0))),(0,y)]=
 ld (ad r1 0) (xP fun p=>cX p (x2 fun v1 v2=>(xA 33 fun cs=>(xB fun b=>mk [.u 0,.u 0,.u 0,.u 0,.u 0,.u 0,.u 0,.u 0,.u 0,.u 0,.i 0,.i 0,.i 0,.i 0,.i 0,.i 0,.u 0,.u 0,.u 0,.u 0,.u 0,.u 0,.u 0,.u 0,.u 0,.u 0,.i 0,.i 0,.i 0,.i 0,.i 0,.i 0,.i 0] (fun r=>bl (cs.length=33) (iN (ad r 0) cs (Q .normal ((4,.bool b)::(3,.pointer (some (ad r 0)))::(9,.bool b)::(8,.agg ⟨cs⟩)::(5,.tuple ⟨[.agg ⟨cs⟩,.bool b]⟩)::(7,.tuple ⟨[.agg ⟨cs⟩,.bool b]⟩)::(6,.pointer p)::[(1,.pointer (some (ad r1 0))),(0,y)]))))) v2) v1)):=by kernel_rfl
def ds1(Q:Exit→Env→WK)(b:Bool)(e:Env):den uL s1 Q ((4,.bool b)::e)=br b (Q .normal ((10,.bool b)::(4,.bool b)::e)) (Q (.exit 0) ((10,.bool b)::(4,.bool b)::e)):=by kernel_rfl
def ds3(K:Env→WK)(r3 r1:Nat)(y:Value)(v4:Value):tC uL (AB s3) ((AB s3).toList.take 3) K ((4,v4)::(3,.pointer (some (ad r3 0)))::(1,.pointer (some (ad r1 0)))::[(0,y)])=
 aj (ad r3 16) 16 (fun cs=>K ((18,.agg ⟨cs⟩)::(17,.pointer (some (ad r3 16)))::(16,y)::(4,v4)::(3,.pointer (some (ad r3 0)))::(1,.pointer (some (ad r1 0)))::[(0,y)])):=by kernel_rfl
noncomputable def o3:Oper:=((AB s3)[3]?).getD ⟨none,.move (.tmp 0),0,"",#[],none⟩
def H0:(AB s3)[3]?=some o3∧o3.dst=some 19∧o3.op=.call {callee:=.value (.tmp 16),args:=#[.tmp 18],argTypes:=#[108]}∧o3.guard=none∧(AB s3).size=5:=⟨by kernel_rfl,by kernel_rfl,by kernel_rfl,by kernel_rfl,by kernel_rfl⟩
def acC(K:Env→WK)(b:Bool)(e:Env):tC uL (AB s3) ((AB s3).toList.drop 4) K ((19,.bool b)::e)=K ((20,.bool (!b))::(19,.bool b)::e):=by kernel_rfl
def ds4(Q:Exit→Env→WK)(r3 r1:Nat)(y:Value):den uL s4 Q ((3,.pointer (some (ad r3 0)))::(1,.pointer (some (ad r1 0)))::[(0,y)])=
 aj (ad r3 0) 33 (fun Zi=>mk [.u 0,.u 0,.u 0,.u 0,.u 0,.u 0,.u 0,.u 0,.u 0,.u 0,.i 0,.i 0,.i 0,.i 0,.i 0,.i 0,.u 0,.u 0,.u 0,.u 0,.u 0,.u 0,.u 0,.u 0,.u 0,.u 0,.i 0,.i 0,.i 0,.i 0,.i 0,.i 0,.i 0] (fun r=>bl (Zi.length=33) (iN (ad r 0) Zi (ld (ad r1 0) (xP fun p=>cX p (x2 fun v1 v2=>(xA 33 fun cs=>(xB fun b=>bl (cs.length=33) (iN (ad r 0) cs (Q .normal ((4,.bool b)::(15,.bool b)::(14,.agg ⟨cs⟩)::(11,.tuple ⟨[.agg ⟨cs⟩,.bool b]⟩)::(13,.tuple ⟨[.agg ⟨cs⟩,.bool b]⟩)::(12,.pointer p)::(3,.pointer (some (ad r 0)))::(21,.agg ⟨Zi⟩)::(3,.pointer (some (ad r3 0)))::(1,.pointer (some (ad r1 0)))::[(0,y)])))) v2) v1)))))):=by kernel_rfl
end Go.Proofs.YtnffemlgkghcfaaGreatDoor
namespace Go.Proofs.YtnffemlgkghcfaaGreatDoor
open Go.Sep Go.Den Go.RowKit Go.Prog Go.Md Go.bI Go.Up
section
variable {W:World} {L:LH} {a:Nat} {m0:Model}
def Va(m0:Model)(b:Up.ax)(hs:List C)(k:Nat):Prop:=∃m,mI b m∧Md.Ground m∧Ru m0 m∧yk m0.clock m.kept=k∧hs.length+4* k≤150000
def Uw:oA Tryz.prog []:=oA.nil
abbrev Mem(a l D r1 rn r0:Nat)(r:Loop)(n:Int)(b:Up.ax)(hs:List C)(L:LH):LH:=
 ob l (.loop r)::ob D (.deferred (some []))::Sep.pt r1 [.pointer (some (ad a 0))]::Sep.pt rn [.i n]::Sep.pt r0 [.pointer (some (ad a 0))]::bn a (b,hs)::L
def MH(hT:mr Tryz.prog Zj)(hm:Tryz.prog.follows .mixedOrders=true){fn:FuncId}{tmps:Array Value}{D l r0 r1 rn j k:Nat}{r:Loop}
 (hr:r={state:=.ready,pending:=none,fn:=fn,tmps:=tmps,params:=#[12],assign:=JK,body:=bd,defers:=D})(h20:tmps.size=20)
 (h5:tmps[5]?=some (.pointer (some (ad rn 0))))(h2:tmps[2]?=some (.pointer (some (ad r0 0)))){P3:HP}{n:Int}{b:Up.ax}{hs:List C}{x:Md.Kept}{w:World}
 (ku:St W w (P3::Mem a l D r1 rn r0 r n b hs L))(AZ:Va m0 b hs k)(hx:x∈b.kept)(ho:kk b.clock x){R:Ending→World→Prop}
 (hR:∀n' b' dh k' w',k'<k→Va m0 b' dh k'→St W w' (P3::Mem a l D r1 rn r0 r n' b' dh L)→R (.returned (.bool true)) w'):
 RoundIn Fence.wide j Tryz.prog l fn (tmps.setIfInBounds 12 (.agg ⟨ai x.move⟩)) JK bd w R:=by
 refine roundIn_of_wpIn trivial ?_;have okF:Ok Ev:=⟨hT,Uw,hm⟩;have a8:12<tmps.size:=by omega
 have s3:S3 Ev [] [(12,.agg ⟨ai x.move⟩),(5,.pointer (some (ad rn 0))),(2,.pointer (some (ad r0 0)))] {tmps:=tmps.setIfInBounds 12 (.agg ⟨ai x.move⟩),defers:=[]}:=by
  refine S3.cons ?_ (S3.cons ?_ (S3.cons ?_ (S3.start rfl ?_)))
  ·show(tmps.setIfInBounds 12 _)[12]?=_;simp[a8]
  ·show(tmps.setIfInBounds 12 _)[5]?=_;rw[Array.getElem?_setIfInBounds_ne (by decide)];exact h5
  ·show(tmps.setIfInBounds 12 _)[2]?=_;rw[Array.getElem?_setIfInBounds_ne (by decide)];exact h2
  ·show(tmps.setIfInBounds 12 _).size=20;simp[h20]
 refine zn (F:=Ev) (.inr ⟨l,rfl⟩) okF Ec.2.2.2.2.1 s3 ?_;rw[das];obtain⟨m,AX,hg,aau,Y2,hlen⟩:=AZ;refine T.at ?_ ku;refine qD fun r6=>?_
 repeat' first|apply ww|apply wm;intro _|apply wb
 intro w1 uI a1 Uq;have Xc:=(uI.obj (k:=2) (b:=l) (o:=.loop r) rfl).1;refine⟨_,run_beginRound Xc (by rw[hr]),?_⟩;have gN:=uI.put (k:=2) (b:=l) (o:=.loop r) (.loop {r with state:=.busy}) rfl (by simp);refine zn (F:=Ev) (.inr ⟨l,rfl⟩) okF Ec.2.2.2.2.2.1 Uq ?_;rw[dbd];refine T.at ?_ gN;show T W (Sep.pt r6 (ai x.move)::P3::Mem a l D r1 rn r0 {r with state:=.busy} n b hs L) _;obtain⟨Jq,Z4,m',DR,Qz,Np,adh⟩:=CF AX hg aau hx ho;obtain⟨⟨d,hd,-,-⟩,⟨c,hc,-,-⟩,ji⟩:=Z4;refine nd (p:=a) fun mR=>?_;have kg:=mR.LB x hx
 repeat' first|apply ww|apply wm;intro _|apply wb
 show T W _ (cw (some ⟨a,0,none⟩) (ai x.move) (nm 0) 4 _);refine Ct (p:=a) (k:=x) Jq ho.1 kg.rG kg.move.aC (by decide) hd hc ji (.inr (.inr rfl)) (fun h=>absurd h (by decide)) (fun h=>absurd h (by decide)) (by omega) fun dh TK=>?_
 repeat' first|apply ww|apply wm;intro _|apply wb
 intro w3 qL a3 VM;subst hr;have OY:=(qL.obj (k:=2) (b:=l) (o:=.loop {state:=.busy,pending:=none,fn:=fn,tmps:=tmps,params:=#[12],assign:=JK,body:=bd,defers:=D}) rfl).1;refine⟨_,_,run_endRound none OY,?_⟩;have th:=(qL.put (k:=2) (b:=l) (o:=.loop {state:=.busy,pending:=none,fn:=fn,tmps:=tmps,params:=#[12],assign:=JK,body:=bd,defers:=D}) (.loop {state:=.ready,pending:=none,fn:=fn,tmps:=tmps,params:=#[12],assign:=JK,body:=bd,defers:=D}) rfl (by simp)).drop;have:=TK.len;exact hR _ _ _ _ _ (by omega) ⟨m',DR,Qz,Np,rfl,by omega⟩ th
abbrev yv(l:Nat):Value:=.func (.yield l) #[] #[]
abbrev NR(b:Bool)(r3 r1 l:Nat):Env:=(4,.bool b)::(3,.pointer (some (ad r3 0)))::(1,.pointer (some (ad r1 0)))::[(0,yv l)]
def UN(hT:mr Tryz.prog Zj)(Ur:mr Tryz.prog U7)(hm:Tryz.prog.follows .mixedOrders=true){fn:FuncId}{tmps:Array Value}{D l r0 r1 rn j:Nat}{r:Loop}
 (hr:r={state:=.ready,pending:=none,fn:=fn,tmps:=tmps,params:=#[12],assign:=JK,body:=bd,defers:=D})(h20:tmps.size=20)
 (h5:tmps[5]?=some (.pointer (some (ad rn 0))))(h2:tmps[2]?=some (.pointer (some (ad r0 0)))){n:Int}{b:Up.ax}{hs:List C}{k:Nat}{w:World}
 (ku:St W w (Mem a l D r1 rn r0 r n b hs L))(AZ:Va m0 b hs k){R:Ending→World→Prop}
 (hR:∀n' b' dh k' w',Va m0 b' dh k'→(∀x∈b'.kept,¬kk b'.clock x)→St W w' (Mem a l D r1 rn r0 r n' b' dh L)→R (.returned (.tuple #[])) w'):
 CallsIn Fence.wide j Tryz.prog 193 #[yv l,.pointer (some (ad r1 0))] w R:=by
 refine callsIn_of_wp Tryz.func193 Q9 trivial ?_ rfl;have okF:Ok uL:=⟨Ur,Uw,hm⟩;have ZI:S3 uL [] [(1,.pointer (some (ad r1 0))),(0,yv l)] {tmps:=#[yv l,.pointer (some (ad r1 0))]++aeI (Tryz.f193.ntmps-2) undef,defers:=[]}:=by
  rw[n193.1];refine S3.cons ?_ (S3.cons ?_ (S3.start rfl ?_))
  ·show(#[yv l,.pointer (some (ad r1 0))]++aeI 20 undef)[1]?=_;simp
  ·show(#[yv l,.pointer (some (ad r1 0))]++aeI 20 undef)[0]?=_;simp
  ·show(#[yv l,.pointer (some (ad r1 0))]++aeI 20 undef).size=22;simp
 refine u9 (F:=uL) (.inl rfl) okF Bf.1 ZI ?_;rw[ds0];have main:∀(bb:Bool)(x:Md.Kept)(r3:Nat)(n:Int)(b:Up.ax)(hs:List C)(k:Nat)(w:World)(a1:Act),S3 uL [] (NR bb r3 r1 l) a1→St W w (Sep.pt r3 (aM x)::Mem a l D r1 rn r0 r n b hs L)→Va m0 b hs k→
                                                (if bb then x∈b.kept∧kk b.clock x else ∀x∈b.kept,¬kk b.clock x)→
                                                (Code.block 0 (.loop (.seq s1 (.seq (.block 1 (.seq (.region 3 (AB s3) false) (.cond (.tmp 20) .ret .skip))) s4)))).wpIn Fence.wide j Tryz.prog (bodyPost Tryz.prog Tryz.f193 R) a1 w:=by
  intro bb x r3 n b hs k w a1 Uq qz AZ Uj;refine wpIn_block (EF (fun k a1 w=>∃(bb:Bool)(x:Md.Kept)(r3:Nat)(n:Int)(b:Up.ax)(hs:List C),S3 uL [] (NR bb r3 r1 l) a1∧St W w (Sep.pt r3 (aM x)::Mem a l D r1 rn r0 r n b hs L)∧Va m0 b hs k∧
   (if bb then x∈b.kept∧kk b.clock x else ∀x∈b.kept,¬kk b.clock x)) ⟨k,bb,x,r3,n,b,hs,Uq,qz,AZ,Uj⟩ ?_)
  rintro k a1 w ⟨bb,x,r3,n,b,hs,Uq,qz,AZ,Uj⟩;refine u9 (F:=uL) (.inl rfl) okF Bf.2.1 Uq ?_;rw[ds1];cases bb with
  |false=>
   rw[cA];intro a2 Nx;show bodyPost Tryz.prog Tryz.f193 R .normal a2 w;refine⟨Nx.2,_,results_none n193.2 _ _ _,?_⟩;exact hR _ _ _ _ _ AZ Uj qz.drop
  |true=>
   rw[jk];obtain⟨hx,ho⟩:=Uj;intro a2 Nx;have Nx:S3 uL [] (NR true r3 r1 l) a2:=S3.cons (Nx.get rfl) (S3.cons (Nx.get rfl) (S3.cons (Nx.get rfl) (S3.cons (Nx.get rfl) Nx.nil)));show(Code.seq (.block 1 (.seq (.region 3 (AB s3) false) (.cond (.tmp 20) .ret .skip))) s4).wpIn Fence.wide j Tryz.prog _ a2 w;refine wpIn_seq (wpIn_block (wpIn_seq ?_));refine Cu (F:=uL) (.inl rfl) okF 3 (by rw[H0.2.2.2.2];decide) Nx ?_ ?_ (K:=fun e w'=>St W w' (Sep.pt r3 (aM x)::Mem a l D r1 rn r0 r n b hs L)∧e=(18,.agg ⟨ai x.move⟩)::(17,.pointer (some (ad r3 16)))::(16,yv l)::NR true r3 r1 l)
   ·rw[ds3];refine T.at ?_ qz
    repeat' first|apply ww|apply wm;intro _|apply wb
    exact fun w' dh=>⟨dh,rfl⟩
   ·rintro e a3 w3 VM ⟨WQ,rfl⟩;rw[H0.2.2.2.2];show wpOpsIn Fence.wide j Tryz.prog (AB s3) _ [3,4] a3 w3;rw[wpOpsIn_cons];unfold wpOpIn;simp only[H0.1];rw[if_pos (by simp[Region.wanted,H0.2.2.2.1])];refine⟨fun f _=>trivial,?_⟩;have hl:=(WQ.obj (k:=1) (b:=l) (o:=.loop r) rfl).1;have e16:a3.eval (.tmp 16)=yv l:=VM.eval rfl;have e18:a3.eval (.tmp 18)=.agg ⟨ai x.move⟩:=VM.eval rfl;rw[show Fence.wide.round=none from rfl,Oper.semAt_none,BS H0.2.2.1 e16,run_yield hl (by rw[hr];simp),Oper.uponIn_round];refine⟨fun h=>(by cases h),?_⟩;have e2:((r.params.zip (#[Operand.tmp 18].map a3.eval)).foldl (fun tmps(t,a)=>tmps.setIfInBounds t a) r.tmps)=tmps.setIfInBounds 12 (.agg ⟨ai x.move⟩):=by
     rw[hr];simp[e18]
    rw[e2,show r.fn=fn by rw[hr],show r.assign=JK by rw[hr],show r.body=bd by rw[hr]];refine MH (W:=W) (L:=L) (a:=a) (m0:=m0) hT hm hr h20 h5 h2 WQ AZ hx ho fun n' b' dh k' w' xD Jr aab=>?_;dsimp only;rw[H0.2.1];have O':=S3.put (v:=.bool true) w' (t:=19) VM rfl;refine Pq (F:=uL) (.inl rfl) okF 4 (by rw[H0.2.2.2.2];decide) O' ?_ ?_ (K:=fun e VZ=>VZ=w'∧e=(20,.bool false)::(19,.bool true)::(18,.agg ⟨ai x.move⟩)::(17,.pointer (some (ad r3 16)))::(16,yv l)::NR true r3 r1 l)
    ·rw[acC];exact⟨rfl,rfl⟩
    ·rintro e a5 w5 Uo ⟨rfl,rfl⟩;show(Code.cond (.tmp 20) .ret .skip).wpIn Fence.wide j Tryz.prog _ a5 w5;refine wpIn_cond_false (Uo.eval rfl) (wpIn_skip ?_);show s4.wpIn Fence.wide j Tryz.prog _ a5 w5;have ha6:S3 uL [] ((3,.pointer (some (ad r3 0)))::(1,.pointer (some (ad r1 0)))::[(0,yv l)]) a5:=S3.cons (Uo.get rfl) (S3.cons (Uo.get rfl) (S3.cons (Uo.get rfl) Uo.nil));refine zn (F:=uL) (.inl rfl) okF Bf.2.2 ha6 ?_;rw[ds4];refine T.at ?_ aab
     repeat' first|apply ww|apply wm;intro _|apply wb
     rename_i r4;refine MG (p:=a) (fun y hy hoy=>?_) (fun DU=>?_)
     ·repeat' first|apply ww|apply wm;intro _|apply wb
      intro w7 OT a7 yA;refine⟨k',xD,true,y,r4,n',b',dh,S3.cons (yA.get rfl) (S3.cons (yA.get rfl) (S3.cons (yA.get rfl) (S3.cons (yA.get rfl) yA.nil))),?_,Jr,⟨hy,hoy⟩⟩;exact(OT.perm (ad2.swap _ _ _)).drop
     ·repeat' first|apply ww|apply wm;intro _|apply wb
      intro w7 OT a7 yA;refine⟨k',xD,false,zK,r4,n',b',dh,S3.cons (yA.get rfl) (S3.cons (yA.get rfl) (S3.cons (yA.get rfl) (S3.cons (yA.get rfl) yA.nil))),?_,Jr,DU⟩;exact(OT.perm (ad2.swap _ _ _)).drop
 refine T.at ?_ ku
 repeat' first|apply ww|apply wm;intro _|apply wb
 refine MG (p:=a) (fun y hy hoy=>?_) (fun DU=>?_)
 ·repeat' first|apply ww|apply wm;intro _|apply wb
  rename_i r4;intro w7 OT a7 yA;exact main true y r4 n b hs k w7 a7 (S3.cons (yA.get rfl) (S3.cons (yA.get rfl) (S3.cons (yA.get rfl) (S3.cons (yA.get rfl) yA.nil)))) OT AZ ⟨hy,hoy⟩
 ·repeat' first|apply ww|apply wm;intro _|apply wb
  rename_i r4;intro w7 OT a7 yA;exact main false zK r4 n b hs k w7 a7 (S3.cons (yA.get rfl) (S3.cons (yA.get rfl) (S3.cons (yA.get rfl) (S3.cons (yA.get rfl) yA.nil)))) OT AZ DU
end
def e82(hm:Tryz.prog.follows .mixedOrders=true)(eU:Entry Tryz.prog 140 cG.u)(eF:Entry Tryz.prog 141 px.u)(eR:Entry Tryz.prog 142 cw.u)(eD:Entry Tryz.prog 194 cX.u):Entry Tryz.prog 82 pZ.u:=by
 have hT:mr Tryz.prog Zj:=⟨.inl eU,.inl eF,.inl eR,trivial⟩;have Ur:mr Tryz.prog U7:=⟨.inl eD,trivial⟩;refine⟨⟨_,Tryz.func82,by kernel_rfl,by kernel_rfl⟩,fun args K w h=>?_⟩;unfold pZ.u at h;split at h
 rotate_left
 ·exact h.elim
 rename_i p now;obtain⟨W,L,a,b,m,hs,rfl,qz,AX,hg,hlen,hk⟩:=h;refine(callsIn_wide (n:=0)).1 (callsIn_of_wp_marks Tryz.func82 UU trivial ?_ rfl);have okF:Ok Ev:=⟨hT,Uw,hm⟩;obtain⟨dr0,dr1,dr2,dr3,-,-,dr7⟩:=Ec;have ZI:S3 Ev [] [(1,.i now),(0,.pointer (some ⟨a,0,none⟩))] {tmps:=⟨[.pointer (some ⟨a,0,none⟩),.i now]⟩++aeI (Tryz.f82.ntmps-2) undef,defers:=[]}:=by
  rw[n82.1];refine S3.cons ?_ (S3.cons ?_ (S3.start rfl ?_))
  ·show(#[Value.pointer (some ⟨a,0,none⟩),.i now]++aeI 18 undef)[1]?=_;simp
  ·show(#[Value.pointer (some ⟨a,0,none⟩),.i now]++aeI 18 undef)[0]?=_;simp
  ·show(#[Value.pointer (some ⟨a,0,none⟩),.i now]++aeI 18 undef).size=20;simp
 refine u9 (F:=Ev) (.inl rfl) okF dr0 ZI ?_;rw[d0];refine T.at ?_ qz;refine qD fun r0=>?_;intro w1 uI a1 Uq;refine u9 (F:=Ev) (.inl rfl) okF dr1 Uq ?_;rw[d1];refine T.at ?_ uI;refine kB rfl (u1 ?_);refine PC (p:=a) (by omega) fun WT hx1=>yR ?_;have Xc:=hx1.len;intro w2 gN a2 Nx;refine u9 (F:=Ev) (.inl rfl) okF dr2 Nx ?_;rw[d2];refine T.at ?_ gN;refine qD fun rn=>?_
 repeat' first|apply ww|apply wm;intro _|apply wb
 intro w3 qL a3 VM;refine wpIn_seq (u9 (F:=Ev) (.inl rfl) okF dr3 VM ?_);rw[d3];refine T.at ?_ qL;refine kB rfl (u1 ?_);unfold px;refine qD fun r1=>?_;intro w4 th a4 O';have th:St W w4 (Sep.pt r1 [.pointer (some (ad a 0))]::Sep.pt rn [.i 0]::Sep.pt r0 [.pointer (some (ad a 0))]::bn a (Go.Up.tick b now,WT)::L):=th;show(Code.block 0 (.rangeFunc (.tmp 11) #[12] JK bd)).wpIn Fence.wide 0 Tryz.prog _ a4 w4;refine wpIn_block ?_;refine MJ rfl (g:=.tmp 11) (gf:=193) (O'.eval rfl) Tryz.func193 (by kernel_rfl) (by kernel_rfl) fun fn=>?_;have ho1:=(th.Wu (.deferred (some [])) (by simp)).Wu (.loop {state:=.ready,pending:=none,fn:=fn,tmps:=a4.tmps,params:=#[12],assign:=JK,body:=bd,defers:=w4.heap.size}) (by simp);rw[World.size_alloc] at ho1;have AZ:Va (qf m now) (Go.Up.tick b now) WT (yk (qf m now).clock (qf m now).kept):=⟨qf m now,Lt AX now,yN hg now,Ru.refl _,rfl,by
  have:yk (qf m now).clock (qf m now).kept≤96:=Nat.le_trans (List.length_filter_le _ _) hg.some_
  omega⟩
 refine UN (W:=W) (L:=L) (a:=a) (m0:=qf m now) (r0:=r0) (rn:=rn) (D:=w4.heap.size) (tmps:=a4.tmps) hT Ur hm rfl O'.1.1.size (O'.get rfl) (O'.get rfl) ho1 AZ fun n' b' dh k' w5 Jr DU Jo=>?_;have hl5:=(Jo.obj (k:=0) (b:=w4.heap.size+1) rfl).1;refine⟨_,_,run_endLoop hl5 (by simp),?_⟩;show Exit.inBlock 0 _ .normal _ _;have TS:=Jo.put (k:=0) (b:=w4.heap.size+1) (.loop {state:=.exhausted,pending:=none,fn:=fn,tmps:=a4.tmps,params:=#[12],assign:=JK,body:=bd,defers:=w4.heap.size}) rfl (by simp);have TS:St W _ (ob (w4.heap.size+1) (.loop {state:=.exhausted,pending:=none,fn:=fn,tmps:=a4.tmps,params:=#[12],assign:=JK,body:=bd,defers:=w4.heap.size})::ob w4.heap.size (.deferred (some []))::Sep.pt r1 [.pointer (some (ad a 0))]::Sep.pt rn [.i n']::Sep.pt r0 [.pointer (some (ad a 0))]::bn a (b',dh)::L):=TS;show(Code.seq q7 .ret).wpIn Fence.wide 0 Tryz.prog _ _ _;have Uo:S3 Ev [{target:=.collected w4.heap.size,args:=#[]}] [(5,.pointer (some (ad rn 0)))] {a4 with defers:={target:=.collected w4.heap.size,args:=#[]}::a4.defers}:=by
  refine S3.cons (O'.get rfl) ⟨⟨⟨O'.1.1.size,rfl,fun t v hl=>by simp[lk] at hl⟩,O'.1.2⟩,?_⟩;show _::a4.defers=_;rw[O'.2]
 refine u9 (F:=Ev) (.inl rfl) okF dr7 Uo ?_;rw[d7];refine T.at ?_ TS;refine kB (r:=rn) (o:=0) rfl (na ?_);intro w7 OT a7 yA;show Code.ret.wpIn Fence.wide 0 Tryz.prog _ a7 w7;refine wpIn_ret ?_;show LeavesInM _ _ _ _ _ _ a7.defers _ _;rw[yA.2];have hD:=(OT.obj (k:=1) (b:=w4.heap.size) rfl).1;have hs8:=OT.put (k:=1) (b:=w4.heap.size) (.deferred none) rfl (by simp);refine⟨by simp,.inl ⟨_,_,rfl,run_takeDeferred hD,?_⟩⟩;refine⟨_,results_tmp n82.2 _ _ _,_,rfl,?_⟩;have e4:a7.tmps.getD 4 undef=.i n':=by rw[Array.getD_eq_getD_getElem?,yA.get (t:=4) rfl];rfl
 rw[e4];obtain⟨m',DR,Qz,Np,-,W9⟩:=Jr;have:=CH DR Np DU;rw[←Dp] at this;subst this;exact hk n' b' dh _ DR Qz (by omega) hs8.drop.drop.drop.drop.drop
end Go.Proofs.YtnffemlgkghcfaaGreatDoor
namespace Go.Proofs.YtnffemlgkghcfaaGreatDoor
open Go.Den Go.Prog
noncomputable abbrev P:Program:=Tryz.prog
def mixed:P.follows .mixedOrders=true:=by kernel_rfl
def eqs:OF:=[(40,[.u 0,.u 0]),(105,c8),(108,gM),(182,bj)]
def XO:oA P eqs:=oA.cons (by kernel_rfl) (by kernel_rfl) Tryz.underlying40 (oA.cons (by kernel_rfl) (by kernel_rfl) Tryz.underlying105 (oA.cons (by kernel_rfl) (by kernel_rfl) Tryz.underlying108 (oA.cons (by kernel_rfl) (by kernel_rfl) Tryz.underlying182 oA.nil)))
def t0:mr P []:=trivial
def tk{T:Ek}{g:Nat}{p:WP}(e:Entry P g p)(h:mr P T):mr P ((g,p)::T):=⟨.inl e,h⟩
def tx{T:Ek}{g:Nat}{p:WP}(e:Rt P g p)(h:mr P T):mr P ((g,p)::T):=⟨.inr e,h⟩
section
variable {g1 g2 g3 g4 g5 g6 g7 g8:Nat} {p1 p2 p3 p4 p5 p6 p7 p8:WP}
def t1(a:Entry P g1 p1):mr P [(g1,p1)]:=tk a t0
def t2(a:Entry P g1 p1)(b:Entry P g2 p2):mr P [(g1,p1),(g2,p2)]:=tk a (t1 b)
def t3(a:Entry P g1 p1)(b:Entry P g2 p2)(c:Entry P g3 p3):mr P [(g1,p1),(g2,p2),(g3,p3)]:=tk a (t2 b c)
def t4(a:Entry P g1 p1)(b:Entry P g2 p2)(c:Entry P g3 p3)(d:Entry P g4 p4):mr P [(g1,p1),(g2,p2),(g3,p3),(g4,p4)]:=tk a (t3 b c d)
def t5(a:Entry P g1 p1)(b:Entry P g2 p2)(c:Entry P g3 p3)(d:Entry P g4 p4)(e:Entry P g5 p5):mr P [(g1,p1),(g2,p2),(g3,p3),(g4,p4),(g5,p5)]:=tk a (t4 b c d e)
def t6(a:Entry P g1 p1)(b:Entry P g2 p2)(c:Entry P g3 p3)(d:Entry P g4 p4)(e:Entry P g5 p5)(f:Entry P g6 p6):mr P [(g1,p1),(g2,p2),(g3,p3),(g4,p4),(g5,p5),(g6,p6)]:=tk a (t5 b c d e f)
end
def fi{n k:Nat}{f g:WK}{w:World}(h:f w)(e:f=g:=by kernel_rfl)(l:Nat.ble n k=true:=by rfl):n≤k∧g w:=⟨adH l,e▸h⟩
def em{T:Ek}{g:Nat}{fn:Func}{p:WP}(m:List Nat)(Ll:List (Nat×List (Nat×Value)))(hT:mr P T)(hf:P.funcs[g]?=some fn)
 (hp:∀args K w,p args K w→args.length≤fn.ntmps∧body P T eqs fn.ntmps m Ll fn.results.toList (fn.body.getD .skip) args K w)(hs:fn.body.isSome=true:=by rfl)(hn:(fn.name== "runtime.NumGoroutine")=false:=by decide):Entry P g p:=
 NG m Ll hT XO mixed hf (by obtain⟨c,hc⟩:=Option.isSome_iff_exists.1 hs;rw[hc];rfl) hn hp
def en{T:Ek}{g:Nat}{fn:Func}{p:WP}(Ll:List (Nat×List (Nat×Value)))(hT:mr P T)(hf:P.funcs[g]?=some fn)
 (hp:∀args K w,p args K w→args.length≤fn.ntmps∧body P T eqs fn.ntmps [] Ll fn.results.toList (fn.body.getD .skip) args K w)(hs:fn.body.isSome=true:=by rfl)(hn:(fn.name== "runtime.NumGoroutine")=false:=by decide):Entry P g p:=em [] Ll hT hf hp hs hn
def e0{T:Ek}{g:Nat}{fn:Func}{p:WP}(hT:mr P T)(hf:P.funcs[g]?=some fn)
 (hp:∀args K w,p args K w→args.length≤fn.ntmps∧body P T eqs fn.ntmps [] [] fn.results.toList (fn.body.getD .skip) args K w)(hs:fn.body.isSome=true:=by rfl)(hn:(fn.name== "runtime.NumGoroutine")=false:=by decide):Entry P g p:=em [] [] hT hf hp hs hn
def abl:Rt P 259 nN.u:=fun args K w h=>by
 unfold nN.u at h;split at h
 ·rename_i x y c;obtain⟨⟨⟨hx,hy⟩,h0,h1⟩,hk⟩:=h;exact⟨_,_,by rw[run_callFunc_extern Tryz.func259 (by kernel_rfl) (by kernel_rfl) (by kernel_rfl) (e:=add64Entry) (by kernel_rfl),run_add64 x y c hx hy h0 h1];rfl,hk⟩
 ·exact h.elim
def We:Array Value→Sem Value:=fun args=>do
 let(x,y,b)←Extern.MathBitsCarry.three "Sub64" args
 pure (Extern.MathBitsCarry.pair ((x+Extern.MathBitsCarry.m64-y-b)%Extern.MathBitsCarry.m64) (if x<y+b then 1 else 0))
def PF(x y b:Nat)(hb:b≤1)(w:World):(We #[.u x,.u y,.u b]).run P w=
 .ok (.tuple #[.u (((x+18446744073709551616-y-b)%18446744073709551616:Nat):Int),.u ((if x<y+b then 1 else 0:Nat):Int)]) w:=by
 have:b=0∨b=1:=by omega
 rcases this with rfl|rfl<;>rfl
def abm:Rt P 258 nM.u:=fun args K w h=>by
 unfold nM.u at h;split at h
 ·rename_i x y c;obtain⟨⟨⟨hx,hy,hy2⟩,h0,h1⟩,hk⟩:=h;obtain⟨x,rfl⟩:=adL hx;obtain⟨y,rfl⟩:=adL hy;obtain⟨c,rfl⟩:=adL h0;refine⟨_,_,by rw[run_callFunc_extern Tryz.func258 (by kernel_rfl) (by kernel_rfl) (by kernel_rfl) (e:=We) (by kernel_rfl),PF x y c (by omega)];rfl,?_⟩;have a1:(((x+18446744073709551616-y-c)%18446744073709551616:Nat):Int)=((x:Int) -y-c)%18446744073709551616:=by omega
  have a2:((if x<y+c then 1 else 0:Nat):Int)=if(x:Int)<y+c then 1 else 0:=by split<;>split<;>omega
  rw[a1,a2];exact hk
 ·exact h.elim
end Go.Proofs.YtnffemlgkghcfaaGreatDoor
namespace Go.Proofs
open Go.Shelf
def Tryz.yp:Go.Shelf.Ren:=⟨fun|169=>123|n=>n,fun|70=>200|9=>9|0=>0|72=>202|37=>161|127=>267|3=>3|5=>5|n=>n,fun|n=>n⟩
theorem Tryz.Qk:Go.Proofs.Lays.n169 Tryz.prog Tryz.yp:={
 mixed:=by kernel_rfl
 f169:=Tryz.func123.trans (congrArg some (by kernel_rfl))
 t0:=Tryz.underlying0
 a0:=Tryz.isAgg0
 z0:=Tryz.sizeOf0
 v0:=Tryz.zeroValue0
 t3:=Tryz.underlying3
 a3:=Tryz.isAgg3
 z3:=Tryz.sizeOf3
 v3:=Tryz.zeroValue3
 t9:=Tryz.underlying9
 a9:=Tryz.isAgg9
 z9:=Tryz.sizeOf9
 v9:=Tryz.zeroValue9
 t37:=Tryz.underlying161
 a37:=Tryz.isAgg161
 z37:=Tryz.sizeOf161
 v37:=Tryz.zeroValue161
 t70:=Tryz.underlying200
 a70:=Tryz.isAgg200
 z70:=Tryz.sizeOf200
 v70:=Tryz.zeroValue200
 t72:=Tryz.underlying202
 a72:=Tryz.isAgg202
 z72:=Tryz.sizeOf202
 v72:=Tryz.zeroValue202
 t127:=Tryz.underlying267
 a127:=Tryz.isAgg267
 z127:=Tryz.sizeOf267
 v127:=Tryz.zeroValue267}
theorem Tryz.wV:Builder.Extra Tryz.prog Tryz.yp:={
 sizeBuilder:=by kernel_rfl
 liesBuilder:=by kernel_rfl
 t5:=Tryz.underlying5
 a5:=Tryz.isAgg5
 z5:=Tryz.sizeOf5
 v5:=Tryz.zeroValue5
 infoByte:=by kernel_rfl
 cellsByte:=by kernel_rfl
 sizeByte:=by kernel_rfl
 neB5:=by decide}
open Go.RowKit in
theorem Tryz.Builder_String_any(B b:Nat)(l:List UInt8)(w:World)(h:Lib.IsBuilder 202 5 B b (Lib.byteCells l) w)(hBw:B≤w.heap.size):
 Calls Tryz.prog 123 #[.pointer (some ⟨b,0,none⟩)] w fun e w'=>e=.returned (.string ⟨l.toArray⟩)∧Below B w w':=Any.Builder_String_any Tryz.Qk Tryz.wV B b l w h hBw
def Tryz.tM:Go.Shelf.Ren:=⟨fun|105=>62|212=>118|99=>119|165=>120|166=>121|170=>122|169=>123|263=>170|264=>171|206=>172|240=>173|241=>174|276=>225|277=>226|n=>n,fun|9=>9|3=>3|4=>4|20=>20|0=>0|46=>196|109=>197|5=>5|72=>202|76=>205|51=>262|146=>263|53=>38|148=>265|70=>200|37=>161|75=>204|127=>267|164=>309|80=>72|n=>n,fun|n=>n⟩
theorem Tryz.Je:Go.Proofs.Lays.n105 Tryz.prog Tryz.tM:={
 mixed:=by kernel_rfl
 f99:=Tryz.func119.trans (congrArg some (by kernel_rfl))
 f105:=Tryz.func62.trans (congrArg some (by kernel_rfl))
 f165:=Tryz.func120.trans (congrArg some (by kernel_rfl))
 f166:=Tryz.func121.trans (congrArg some (by kernel_rfl))
 f169:=Tryz.func123.trans (congrArg some (by kernel_rfl))
 f170:=Tryz.func122.trans (congrArg some (by kernel_rfl))
 f206:=Tryz.func172.trans (congrArg some (by kernel_rfl))
 f212:=Tryz.func118.trans (congrArg some (by kernel_rfl))
 f240:=Tryz.func173.trans (congrArg some (by kernel_rfl))
 f241:=Tryz.func174.trans (congrArg some (by kernel_rfl))
 f263:=Tryz.func170.trans (congrArg some (by kernel_rfl))
 f264:=Tryz.func171.trans (congrArg some (by kernel_rfl))
 f276:=Tryz.func225.trans (congrArg some (by kernel_rfl))
 f277:=Tryz.func226.trans (congrArg some (by kernel_rfl))
 t0:=Tryz.underlying0
 a0:=Tryz.isAgg0
 z0:=Tryz.sizeOf0
 v0:=Tryz.zeroValue0
 t3:=Tryz.underlying3
 a3:=Tryz.isAgg3
 z3:=Tryz.sizeOf3
 v3:=Tryz.zeroValue3
 t4:=Tryz.underlying4
 a4:=Tryz.isAgg4
 z4:=Tryz.sizeOf4
 v4:=Tryz.zeroValue4
 t5:=Tryz.underlying5
 a5:=Tryz.isAgg5
 z5:=Tryz.sizeOf5
 v5:=Tryz.zeroValue5
 t9:=Tryz.underlying9
 a9:=Tryz.isAgg9
 z9:=Tryz.sizeOf9
 v9:=Tryz.zeroValue9
 t20:=Tryz.underlying20
 a20:=Tryz.isAgg20
 z20:=Tryz.sizeOf20
 v20:=Tryz.zeroValue20
 t37:=Tryz.underlying161
 a37:=Tryz.isAgg161
 z37:=Tryz.sizeOf161
 v37:=Tryz.zeroValue161
 t46:=Tryz.underlying196
 a46:=Tryz.isAgg196
 z46:=Tryz.sizeOf196
 v46:=Tryz.zeroValue196
 t51:=Tryz.underlying262
 a51:=Tryz.isAgg262
 z51:=Tryz.sizeOf262
 v51:=Tryz.zeroValue262
 t53:=Tryz.underlying38
 a53:=Tryz.isAgg38
 z53:=Tryz.sizeOf38
 v53:=Tryz.zeroValue38
 t70:=Tryz.underlying200
 a70:=Tryz.isAgg200
 z70:=Tryz.sizeOf200
 v70:=Tryz.zeroValue200
 t72:=Tryz.underlying202
 a72:=Tryz.isAgg202
 z72:=Tryz.sizeOf202
 v72:=Tryz.zeroValue202
 t75:=Tryz.underlying204
 a75:=Tryz.isAgg204
 z75:=Tryz.sizeOf204
 v75:=Tryz.zeroValue204
 t76:=Tryz.underlying205
 a76:=Tryz.isAgg205
 z76:=Tryz.sizeOf205
 v76:=Tryz.zeroValue205
 t109:=Tryz.underlying197
 a109:=Tryz.isAgg197
 z109:=Tryz.sizeOf197
 v109:=Tryz.zeroValue197
 t127:=Tryz.underlying267
 a127:=Tryz.isAgg267
 z127:=Tryz.sizeOf267
 v127:=Tryz.zeroValue267
 t146:=Tryz.underlying263
 a146:=Tryz.isAgg263
 z146:=Tryz.sizeOf263
 v146:=Tryz.zeroValue263
 t148:=Tryz.underlying265
 a148:=Tryz.isAgg265
 z148:=Tryz.sizeOf265
 v148:=Tryz.zeroValue265
 t164:=Tryz.underlying309
 a164:=Tryz.isAgg309
 z164:=Tryz.sizeOf309
 v164:=Tryz.zeroValue309}
theorem Tryz.q6:Builder.Extra Tryz.prog Tryz.tM:={
 sizeBuilder:=by kernel_rfl
 liesBuilder:=by kernel_rfl
 t5:=Tryz.underlying5
 a5:=Tryz.isAgg5
 z5:=Tryz.sizeOf5
 v5:=Tryz.zeroValue5
 infoByte:=by kernel_rfl
 cellsByte:=by kernel_rfl
 sizeByte:=by kernel_rfl
 neB5:=by decide}
open Go.RowKit Go.Lib in
theorem Tryz.strings_Repeat(s:ByteArray)(c:Nat)(w:World)(hc:c≤9223372036854775807)(hlen:s.size* c≤140737488355328):
 Calls Tryz.prog 62 #[.string s,.int .i64 c] w fun e w'=>e=.returned (.string ⟨(Lib.repeatL s.data.toList c).toArray⟩)∧Below w.heap.size w w':=Any.strings_Repeat Tryz.Je Tryz.q6 s c w hc hlen
open Go.RowKit Go.Lib in
theorem Tryz.Ql:Go.Proofs.Lays.n166 Tryz.prog Tryz.tM:={Tryz.Je with}
open Go.RowKit in
theorem Tryz.Builder_WriteString(B b:Nat)(bs:List Value)(s:ByteArray)(w:World)(h:Lib.IsBuilder 202 5 B b bs w)(hlen:bs.length+s.size≤140737488355328)(hBw:B≤w.heap.size):
 Calls Tryz.prog 121 #[.pointer (some ⟨b,0,none⟩),.string s] w fun e w'=>e=.returned (.tuple #[.int .i64 s.size,.nilIface])∧(Lib.BuilderAt 202 5 B b (.pointer (some ⟨b,0,none⟩)) (bs++Lib.strCells s) w'∧Below B w w'):=Any.Builder_WriteString Tryz.Ql Tryz.q6 B b bs s w h hlen hBw
end Go.Proofs
namespace Go.Proofs.YtnffemlgkghcfaaGreatDoor
open Go.Den Go.Prog
def IX(l:List UInt8):∀n,Am l n=Go.Lib.repeatL l n
 |0=>rfl
 |n+1=>by simp[Am,Go.Lib.repeatL,IX l n]
def e62:Entry P 62 strings_Repeat.u:=⟨⟨_,Tryz.func62,rfl,rfl⟩,fun args K w h=>by
 unfold strings_Repeat.u at h
 split at h
 ·rename_i s n
  obtain⟨⟨h0,h1,h2⟩,hk⟩:=h
  obtain⟨m,rfl⟩:=adL h0
  refine(Go.Proofs.Tryz.strings_Repeat s m w (by omega) (by simpa using h1)).mono fun e w' ⟨he,hb⟩=>⟨_,he,?_⟩
  rw[←IX];exact hk w' hb
 ·exact h.elim⟩
def acr:Entry P 121 fN.u:=⟨⟨_,Tryz.func121,rfl,rfl⟩,fun args K w h=>by
 unfold fN.u at h
 split at h
 ·rename_i p s
  obtain⟨B,b,l,rfl,hb,hl,hB,hk⟩:=h
  refine(Go.Proofs.Tryz.Builder_WriteString B b (Go.Lib.byteCells l) s w hb (by simpa [Go.Lib.byteCells] using hl) hB).mono fun e w' ⟨he,Uj,Xx⟩=>⟨_,he,hk w' (.inr ?_) Xx⟩
  have e:Go.Lib.byteCells (l++s.data.toList)=Go.Lib.byteCells l++Go.Lib.strCells s:=by simp[Go.Lib.byteCells,Go.Lib.strCells]
  rw[e];exact Uj
 ·exact h.elim⟩
def acq:Entry P 123 iC.u:=⟨⟨_,Tryz.func123,rfl,rfl⟩,fun args K w h=>by
 unfold iC.u at h
 split at h
 ·obtain⟨B,b,l,rfl,hb,hB,hk⟩:=h
  exact(Go.Proofs.Tryz.Builder_String_any B b l w hb hB).mono fun e w' ⟨he,Xx⟩=>⟨_,he,hk w' Xx⟩
 ·exact h.elim⟩
def e26:Entry P 26 jQ.u:=e0 (t1 e62) Tryz.func26 fun a K w h=>by unfold jQ.u at h;split at h;exact fi h;exact h.elim
def e9:Entry P 9 kG.u:=en [(3,[(2,.p none),(3,.p (some ⟨0,0,none⟩)),(8,.i 0),(9,.i 0)])] (t1 e26) Tryz.func9 fun a K w h=>by unfold kG.u at h;split at h;exact fi h;exact h.elim
def e27:Entry P 27 nw.u:=e0 t0 Tryz.func27 fun a K w h=>by unfold nw.u at h;split at h;exact fi h;exact h.elim
def XS:Entry P 28 cu.u:=e0 t0 Tryz.func28 fun a K w h=>by unfold cu.u at h;split at h;exact fi h;exact h.elim
def VO:Entry P 68 jV.u:=e0 t0 Tryz.func68 fun a K w h=>by unfold jV.u at h;split at h;exact fi h;exact h.elim
def UI:Entry P 130 cb.u:=e0 t0 Tryz.func130 fun a K w h=>by unfold cb.u at h;split at h;exact fi h;exact h.elim
def LS:Entry P 69 ao.u:=en [(3,[(4,.i 0),(5,.i 0),(13,.l none 0 0),(14,.i 0),(15,.i 0)])] (t1 UI) Tryz.func69 fun a K w h=>by unfold ao.u at h;split at h;exact fi h;exact h.elim
def ack:Entry P 131 jX.u:=en [(5,[(2,.p (some ⟨0,0,none⟩)),(3,.bool false),(4,.p (some ⟨0,0,none⟩)),(10,.i 0)])] t0 Tryz.func131 fun a K w h=>by unfold jX.u at h;split at h;exact fi h;exact h.elim
def Zh:Entry P 74 bw.u:=e0 (t2 UI ack) Tryz.func74 fun a K w h=>by unfold bw.u at h;split at h;exact fi h;exact h.elim
def HY:Entry P 115 bD.u:=e0 t0 Tryz.func115 fun a K w h=>by unfold bD.u at h;split at h;exact fi h;exact h.elim
def e71:Entry P 71 lG.u:=e0 (t3 LS Zh HY) Tryz.func71 fun a K w h=>by unfold lG.u at h;split at h;exact fi h;exact h.elim
def e73:Entry P 73 kx.u:=e0 (t3 LS Zh HY) Tryz.func73 fun a K w h=>by unfold kx.u at h;split at h;exact fi h;exact h.elim
def e77:Entry P 77 gv.u:=e0 t0 Tryz.func77 fun a K w h=>by unfold gv.u at h;split at h;exact fi h;exact h.elim
def UK:Entry P 116 iY.u:=e0 t0 Tryz.func116 fun a K w h=>by unfold iY.u at h;split at h;exact fi h;exact h.elim
def aco:Entry P 125 nR.u:=e0 t0 Tryz.func125 fun a K w h=>by unfold nR.u at h;split at h;exact fi h;exact h.elim
def acn:Entry P 126 iL.u:=e0 t0 Tryz.func126 fun a K w h=>by unfold iL.u at h;split at h;exact fi h;exact h.elim
def acm:Entry P 127 jU.u:=e0 t0 Tryz.func127 fun a K w h=>by unfold jU.u at h;split at h;exact fi h;exact h.elim
def e64:Entry P 64 m8.u:=e0 (t3 aco acn acm) Tryz.func64 fun a K w h=>by unfold m8.u at h;split at h;exact fi h;exact h.elim
def Yn:Entry P 143 gZ.u:=e0 t0 Tryz.func143 fun a K w h=>by unfold gZ.u at h;split at h;exact fi h;exact h.elim
def abe:Entry P 268 lZ.u:=e0 t0 Tryz.func268 fun a K w h=>by unfold lZ.u at h;split at h;exact fi h;exact h.elim
def QT:Entry P 219 bt.u:=en [(5,[(3,.p (some ⟨0,0,none⟩)),(4,.i 0),(5,.bool false),(6,.u 0),(7,.i 0),(8,.u 0)])] (t1 abe) Tryz.func219 fun a K w h=>by unfold bt.u at h;split at h;exact fi h;exact h.elim
def HX:Entry P 162 dx.u:=e0 (t1 QT) Tryz.func162 fun a K w h=>by unfold dx.u at h;split at h;exact fi h;exact h.elim
def abF:Entry P 220 ja.u:=en [(2,[(2,.l none 0 0),(3,.i 0)]),(6,[(30,.l none 0 0),(31,.i 0),(32,.i 0)])] (t1 QT) Tryz.func220 fun a K w h=>by unfold ja.u at h;split at h;exact fi h;exact h.elim
def UG:Entry P 163 bT.u:=e0 (t2 QT abF) Tryz.func163 fun a K w h=>by unfold bT.u at h;split at h;exact fi h;exact h.elim
def Eb:Entry P 191 dE.u:=e0 t0 Tryz.func191 fun a K w h=>by unfold dE.u at h;split at h;exact fi h;exact h.elim
def abE:Entry P 221 aZ.u:=e0 t0 Tryz.func221 fun a K w h=>by unfold aZ.u at h;split at h;exact fi h;exact h.elim
def Yj:Entry P 164 cY.u:=e0 (t1 Eb) Tryz.func164 fun a K w h=>by unfold cY.u at h;split at h;exact fi h;exact h.elim
def abc:Entry P 270 dy.u:=e0 t0 Tryz.func270 fun a K w h=>by unfold dy.u at h;split at h;exact fi h;exact h.elim
def abd:Entry P 269 mM.u:=en [(2,[(4,.i 0),(5,.i 0),(6,.i 0)])] (t1 abc) Tryz.func269 fun a K w h=>by unfold mM.u at h;split at h;exact fi h;exact h.elim
def UA:Entry P 222 gA.u:=e0 (t1 abd) Tryz.func222 fun a K w h=>by unfold gA.u at h;split at h;exact fi h;exact h.elim
def Yi:Entry P 165 eO.u:=e0 (t1 UA) Tryz.func165 fun a K w h=>by unfold eO.u at h;split at h;exact fi h;exact h.elim
def QX:Entry P 166 cj.u:=e0 t0 Tryz.func166 fun a K w h=>by unfold cj.u at h;split at h;exact fi h;exact h.elim
def abD:Entry P 223 bB.u:=e0 t0 Tryz.func223 fun a K w h=>by unfold bB.u at h;split at h;exact fi h;exact h.elim
def Yh:Entry P 167 dO.u:=e0 (t1 Eb) Tryz.func167 fun a K w h=>by unfold dO.u at h;split at h;exact fi h;exact h.elim
def UF:Entry P 168 mZ.u:=e0 t0 Tryz.func168 fun a K w h=>by unfold mZ.u at h;split at h;exact fi h;exact h.elim
def XU:Entry P 271 kF.u:=e0 t0 Tryz.func271 fun a K w h=>by unfold kF.u at h;split at h;exact fi h;exact h.elim
def X4:Entry P 224 eL.u:=em [1] [(0,[(1,.i 0)])] (t1 XU) Tryz.func224 fun a K w h=>by unfold eL.u at h;split at h;exact fi h;exact h.elim
def UE:Entry P 169 gw.u:=e0 (t1 X4) Tryz.func169 fun a K w h=>by unfold gw.u at h;split at h;exact fi h;exact h.elim
def acs:Entry P 117 b9.u:=en [(5,[(8,.p none),(9,.i 0),(10,.p none),(46,.l none 0 0),(47,.i 0),(48,.i 0)]),(13,[(8,.p none),(9,.i 0),(10,.p none),(77,.l none 0 0),(78,.i 0),(79,.i 0)])] (tk e64 (tk Yn (tk HX (tk UG (tk Yj (tk Yi (tk QX (tk Yh (tk UF (tk UE t0)))))))))) Tryz.func117 fun a K w h=>by unfold b9.u at h;split at h;exact fi h;exact h.elim
def e61:Entry P 61 jB.u:=en [(10,[(2,.p none),(3,.i 0),(4,.p none),(5,.i 0),(6,.i 0),(8,.i 0),(9,.l none 0 0),(38,.i 0),(39,.i 0)]),(15,[(2,.p none),(3,.i 0),(4,.p none),(5,.i 0),(6,.i 0),(9,.l none 0 0),(10,.l none 0 0),(47,.i 0),(48,.i 0)])] (tk VO (tk LS (tk e71 (tk e73 (tk e77 (tk HY (tk UK (tk acs t0)))))))) Tryz.func61 fun a K w h=>by unfold jB.u at h;split at h;exact fi h;exact h.elim
def Ym:Entry P 152 iP.u:=e0 t0 Tryz.func152 fun a K w h=>by unfold iP.u at h;split at h;exact fi h;exact h.elim
def QY:Entry P 106 eW.u:=en [(6,[(4,.string .empty),(5,.i 0),(6,.i 0)])] (t1 Ym) Tryz.func106 fun a K w h=>by unfold eW.u at h;split at h;exact fi h;exact h.elim
def Ya:Entry P 204 kM.u:=e0 t0 Tryz.func204 fun a K w h=>by unfold kM.u at h;split at h;exact fi h;exact h.elim
def X':Entry P 205 mU.u:=en [(3,[(4,.int .u32 0),(5,.int .u32 0),(10,.i 0),(11,.i 0)]),(7,[(4,.int .u32 0),(5,.int .u32 0),(6,.i 0),(10,.i 0),(11,.i 0),(12,.bool false),(13,.i 0),(14,.int .u32 0),(15,.string .empty),(16,.i 0),(17,.int .u8 0),(18,.int .u32 0),(19,.int .u32 0),(20,.i 0)])] t0 Tryz.func205 fun a K w h=>by unfold mU.u at h;split at h;exact fi h;exact h.elim
def ab0:Entry P 176 l7.u:=e0 (t2 Ya X') Tryz.func176 fun a K w h=>by unfold l7.u at h;split at h;exact fi h;exact h.elim
def abC:Entry P 227 fW.u:=em [0] [(1,[(0,.string .empty),(4,.string .empty)])] t0 Tryz.func227 fun a K w h=>by unfold fW.u at h;split at h;exact fi h;exact h.elim
def abB:Entry P 228 fI.u:=em [0] [(1,[(0,.string .empty),(4,.string .empty)])] t0 Tryz.func228 fun a K w h=>by unfold fI.u at h;split at h;exact fi h;exact h.elim
def abZ:Entry P 177 dB.u:=e0 (t2 abC abB) Tryz.func177 fun a K w h=>by unfold dB.u at h;split at h;exact fi h;exact h.elim
def Yg:Entry P 178 mK.u:=e0 t0 Tryz.func178 fun a K w h=>by unfold mK.u at h;split at h;exact fi h;exact h.elim
def UJ:Entry P 129 ij.u:=e0 (t6 VO LS UI ab0 abZ Yg) Tryz.func129 fun a K w h=>by unfold ij.u at h;split at h;exact fi h;exact h.elim
def Yk:Entry P 156 mS.u:=e0 t0 Tryz.func156 fun a K w h=>by unfold mS.u at h;split at h;exact fi h;exact h.elim
def ab1:Entry P 175 nL.u:=e0 (t4 VO LS e77 Yk) Tryz.func175 fun a K w h=>by unfold nL.u at h;split at h;exact fi h;exact h.elim
def acp:Entry P 124 kd.u:=e0 (t3 QY UJ ab1) Tryz.func124 fun a K w h=>by unfold kd.u at h;split at h;exact fi h;exact h.elim
def e63:Entry P 63 kL.u:=e0 (t1 acp) Tryz.func63 fun a K w h=>by unfold kL.u at h;split at h;exact fi h;exact h.elim
def Ys:Entry P 109 jh.u:=e0 t0 Tryz.func109 fun a K w h=>by unfold jh.u at h;split at h;exact fi h;exact h.elim
def K6:Entry P 105 iu.u:=e0 t0 Tryz.func105 fun a K w h=>by unfold iu.u at h;split at h;exact fi h;exact h.elim
def Yr:Entry P 128 fp.u:=en [(5,[(10,.string .empty),(11,.bool false),(12,.p (some ⟨0,0,none⟩)),(48,.i 0),(49,.i 0)])] (t6 XS K6 QY acr acq UJ) Tryz.func128 fun a K w h=>by unfold fp.u at h;split at h;exact fi h;exact h.elim
def e65:Entry P 65 jO.u:=e0 (t2 Ys Yr) Tryz.func65 fun a K w h=>by unfold jO.u at h;split at h;exact fi h;exact h.elim
def e29:Entry P 29 nE.u:=e0 (t4 e61 e63 e64 e65) Tryz.func29 fun a K w h=>by unfold nE.u at h;split at h;exact fi h;exact h.elim
def e66:Entry P 66 ka.u:=e0 (t1 XS) Tryz.func66 fun a K w h=>by unfold ka.u at h;split at h;exact fi h;exact h.elim
def e67:Entry P 67 cO.u:=e0 (tk VO (tk LS (tk K6 (tk QY (tk HY (tk Yr (tk UJ t0))))))) Tryz.func67 fun a K w h=>by unfold cO.u at h;split at h;exact fi h;exact h.elim
def e30:Entry P 30 gH.u:=en [(7,[(8,.p none),(9,.l none 0 0),(10,.i 0),(11,.p (some ⟨0,0,none⟩)),(12,.l none 0 0)])] (t2 e66 e67) Tryz.func30 fun a K w h=>by unfold gH.u at h;split at h;exact fi h;exact h.elim
def e70:Entry P 70 fH.u:=en [(3,[(4,.l none 0 0),(5,.l none 0 0),(7,.i 0),(8,.i 0)])] (t3 e71 LS HY) Tryz.func70 fun a K w h=>by unfold fH.u at h;split at h;exact fi h;exact h.elim
def e72:Entry P 72 fj.u:=en [(3,[(4,.l none 0 0),(5,.l none 0 0),(7,.i 0),(8,.i 0)])] (t3 LS HY e73) Tryz.func72 fun a K w h=>by unfold fj.u at h;split at h;exact fi h;exact h.elim
def e75:Entry P 75 gF.u:=e0 (t1 LS) Tryz.func75 fun a K w h=>by unfold gF.u at h;split at h;exact fi h;exact h.elim
def e76:Entry P 76 iz.u:=en [(3,[(4,.l none 0 0),(5,.l none 0 0),(7,.i 0),(8,.i 0)])] (t3 LS Zh HY) Tryz.func76 fun a K w h=>by unfold iz.u at h;split at h;exact fi h;exact h.elim
def e79:Entry P 79 lN.u:=e0 t0 Tryz.func79 fun a K w h=>by unfold lN.u at h;split at h;exact fi h;exact h.elim
def e84:Entry P 84 eo.u:=e0 t0 Tryz.func84 fun a K w h=>by unfold eo.u at h;split at h;exact fi h;exact h.elim
def Yq:Entry P 132 fS.u:=e0 t0 Tryz.func132 fun a K w h=>by unfold fS.u at h;split at h;exact fi h;exact h.elim
def Yp:Entry P 133 dc.u:=e0 t0 Tryz.func133 fun a K w h=>by unfold dc.u at h;split at h;exact fi h;exact h.elim
def e78:Entry P 78 jT.u:=en [(6,[(2,.bool false),(20,.l none 0 0),(21,.i 0),(22,.i 0)]),(13,[(2,.bool false),(33,.l none 0 0),(34,.i 0),(35,.i 0)])] (t4 e79 e84 Yq Yp) Tryz.func78 fun a K w h=>by unfold jT.u at h;split at h;exact fi h;exact h.elim
def e31:Entry P 31 iK.u:=e0 (tk VO (tk LS (tk e70 (tk e72 (tk Zh (tk e75 (tk e76 (tk e77 (tk e78 t0))))))))) Tryz.func31 fun a K w h=>by unfold iK.u at h;split at h;exact fi h;exact h.elim
def e32:Entry P 32 jS.u:=e0 t0 Tryz.func32 fun a K w h=>by unfold jS.u at h;split at h;exact fi h;exact h.elim
def aci:Entry P 135 eQ.u:=e0 t0 Tryz.func135 fun a K w h=>by unfold eQ.u at h;split at h;exact fi h;exact h.elim
def abY:Entry P 179 fr.u:=en [(2,[(4,.i 0),(5,.bool false),(8,.l none 0 0),(9,.i 0),(10,.i 0)])] (t1 aci) Tryz.func179 fun a K w h=>by unfold fr.u at h;split at h;exact fi h;exact h.elim
def QW:Entry P 180 il.u:=en [(1,[(8,.i 0),(9,.i 0)])] t0 Tryz.func180 fun a K w h=>by unfold il.u at h;split at h;exact fi h;exact h.elim
def X1:Entry P 238 bX.u:=e0 t0 Tryz.func238 fun a K w h=>by unfold bX.u at h;split at h;exact fi h;exact h.elim
def Yc:Entry P 199 bC.u:=e0 (t1 X1) Tryz.func199 fun a K w h=>by unfold bC.u at h;split at h;exact fi h;exact h.elim
def K5:Entry P 144 bJ.u:=e0 (t2 HX Yc) Tryz.func144 fun a K w h=>by unfold bJ.u at h;split at h;exact fi h;exact h.elim
def Gf:Entry P 236 eK.u:=e0 t0 Tryz.func236 fun a K w h=>by unfold eK.u at h;split at h;exact fi h;exact h.elim
def abA:Entry P 237 iq.u:=e0 (t1 Gf) Tryz.func237 fun a K w h=>by unfold iq.u at h;split at h;exact fi h;exact h.elim
def abW:Entry P 182 kf.u:=e0 (t2 Gf abA) Tryz.func182 fun a K w h=>by unfold kf.u at h;split at h;exact fi h;exact h.elim
def abV:Entry P 183 kh.u:=e0 t0 Tryz.func183 fun a K w h=>by unfold kh.u at h;split at h;exact fi h;exact h.elim
def aa':Entry P 278 cE.u:=e0 t0 Tryz.func278 fun a K w h=>by unfold cE.u at h;split at h;exact fi h;exact h.elim
def X0:Entry P 239 ix.u:=e0 (t1 Eb) Tryz.func239 fun a K w h=>by unfold ix.u at h;split at h;exact fi h;exact h.elim
def XZ:Entry P 241 iv.u:=e0 (t1 QT) Tryz.func241 fun a K w h=>by unfold iv.u at h;split at h;exact fi h;exact h.elim
def abz:Entry P 240 cH.u:=e0 (t1 XZ) Tryz.func240 fun a K w h=>by unfold cH.u at h;split at h;exact fi h;exact h.elim
def abU:Entry P 184 gK.u:=e0 (t6 HX UG Yj Eb X1 X0) Tryz.func184 fun a K w h=>by unfold gK.u at h;split at h;exact fi h;exact h.elim
def ach:Entry P 136 jD.u:=e0 (t4 K5 abW abV abU) Tryz.func136 fun a K w h=>by unfold jD.u at h;split at h;exact fi h;exact h.elim
def abb:Entry P 276 kR.u:=e0 t0 Tryz.func276 fun a K w h=>by unfold kR.u at h;split at h;exact fi h;exact h.elim
def X3:Entry P 234 dk.u:=e0 (t1 abb) Tryz.func234 fun a K w h=>by unfold dk.u at h;split at h;exact fi h;exact h.elim
def abP:Entry P 192 cF.u:=e0 t0 Tryz.func192 fun a K w h=>by unfold cF.u at h;split at h;exact fi h;exact h.elim
def abj:Entry P 262 cW.u:=e0 (t1 UE) Tryz.func262 fun a K w h=>by unfold cW.u at h;split at h;exact fi h;exact h.elim
def aa7:Entry P 284 eJ.u:=e0 (t1 UA) Tryz.func284 fun a K w h=>by unfold eJ.u at h;split at h;exact fi h;exact h.elim
def aa8:Entry P 283 cJ.u:=e0 (t2 XZ aa7) Tryz.func283 fun a K w h=>by unfold cJ.u at h;split at h;exact fi h;exact h.elim
def aaX:Entry P 297 cn.u:=em [1] [(0,[(1,.i 0)]),(2,[(1,.i 0),(4,.i 0),(5,.i 0)])] (t1 XU) Tryz.func297 fun a K w h=>by unfold cn.u at h;split at h;exact fi h;exact h.elim
def aa1:Entry P 290 iZ.u:=e0 (t2 X4 aaX) Tryz.func290 fun a K w h=>by unfold iZ.u at h;split at h;exact fi h;exact h.elim
def XV:Entry P 261 gG.u:=en [(4,[(4,.bool false),(12,.l none 0 0),(13,.i 0),(14,.i 0)])] (t1 aa1) Tryz.func261 fun a K w h=>by unfold gG.u at h;split at h;exact fi h;exact h.elim
def aa6:Entry P 285 cI.u:=e0 (t1 XV) Tryz.func285 fun a K w h=>by unfold cI.u at h;split at h;exact fi h;exact h.elim
def aa2:Entry P 289 aY.u:=e0 t0 Tryz.func289 fun a K w h=>by unfold aY.u at h;split at h;exact fi h;exact h.elim
def aa0:Entry P 291 bA.u:=e0 t0 Tryz.func291 fun a K w h=>by unfold bA.u at h;split at h;exact fi h;exact h.elim
def aba:Entry P 277 kS.u:=en [(1,[])] (tk abj (tk aa8 (tk aa6 (tk abz (tk abP (tk aa' (tk abE (tk aa2 (tk abD (tk aa0 t0)))))))))) Tryz.func277 fun a K w h=>by unfold kS.u at h;split at h;exact fi h;exact h.elim
def X2:Entry P 235 dw.u:=e0 (t1 aba) Tryz.func235 fun a K w h=>by unfold dw.u at h;split at h;exact fi h;exact h.elim
def abX:Entry P 181 fK.u:=en [(2,[(8,.i 0),(14,.l none 0 0),(15,.i 0),(16,.i 0)])] (t4 X2 X3 ach QW) Tryz.func181 fun a K w h=>by unfold fK.u at h;split at h;exact fi h;exact h.elim
def acj:Entry P 134 gY.u:=en [(3,[(8,.l none 0 0),(9,.l none 0 0),(10,.i 0)])] (t3 abY QW abX) Tryz.func134 fun a K w h=>by unfold gY.u at h;split at h;exact fi h;exact h.elim
def e80:Entry P 80 ke.u:=e0 (t1 acj) Tryz.func80 fun a K w h=>by unfold ke.u at h;split at h;exact fi h;exact h.elim
def acf:Entry P 138 dQ.u:=e0 t0 Tryz.func138 fun a K w h=>by unfold dQ.u at h;split at h;exact fi h;exact h.elim
def abT:Entry P 185 eP.u:=en [(2,[(4,.i 0),(5,.bool false),(8,.l none 0 0),(9,.i 0),(10,.i 0)])] (t1 acf) Tryz.func185 fun a K w h=>by unfold eP.u at h;split at h;exact fi h;exact h.elim
def QV:Entry P 188 mw.u:=e0 t0 Tryz.func188 fun a K w h=>by unfold mw.u at h;split at h;exact fi h;exact h.elim
def QR:Entry P 243 hI.u:=e0 t0 Tryz.func243 fun a K w h=>by unfold hI.u at h;split at h;exact fi h;exact h.elim
def aby:Entry P 242 gp.u:=en [(3,[(1,.p (some ⟨0,0,none⟩)),(2,.bool false),(3,.i 0),(6,.agg #[]),(7,.i 0)])] (t2 QV QR) Tryz.func242 fun a K w h=>by unfold gp.u at h;split at h;exact fi h;exact h.elim
def abx:Entry P 244 jl.u:=e0 (t1 Gf) Tryz.func244 fun a K w h=>by unfold jl.u at h;split at h;exact fi h;exact h.elim
def XT:Entry P 279 jM.u:=e0 t0 Tryz.func279 fun a K w h=>by unfold jM.u at h;split at h;exact fi h;exact h.elim
def abw:Entry P 245 fU.u:=e0 (t2 Gf XT) Tryz.func245 fun a K w h=>by unfold fU.u at h;split at h;exact fi h;exact h.elim
def Yf:Entry P 187 cB.u:=e0 (t6 QV Gf aby QR abx abw) Tryz.func187 fun a K w h=>by unfold cB.u at h;split at h;exact fi h;exact h.elim
def UD:Entry P 200 bE.u:=e0 (t1 QX) Tryz.func200 fun a K w h=>by unfold bE.u at h;split at h;exact fi h;exact h.elim
def K4:Entry P 145 dm.u:=e0 (t2 HX UD) Tryz.func145 fun a K w h=>by unfold dm.u at h;split at h;exact fi h;exact h.elim
def abk:Entry P 260 dH.u:=e0 (t2 Eb Yc) Tryz.func260 fun a K w h=>by unfold dH.u at h;split at h;exact fi h;exact h.elim
def Yd:Entry P 197 fE.u:=e0 (t3 K5 HX abk) Tryz.func197 fun a K w h=>by unfold fE.u at h;split at h;exact fi h;exact h.elim
def XY:Entry P 246 mJ.u:=e0 t0 Tryz.func246 fun a K w h=>by unfold mJ.u at h;split at h;exact fi h;exact h.elim
def abv:Entry P 247 oN.u:=e0 (t1 K5) Tryz.func247 fun a K w h=>by unfold oN.u at h;split at h;exact fi h;exact h.elim
def XX:Entry P 248 iy.u:=e0 (t1 QX) Tryz.func248 fun a K w h=>by unfold iy.u at h;split at h;exact fi h;exact h.elim
def aa3:Entry P 288 lW.u:=e0 t0 Tryz.func288 fun a K w h=>by unfold lW.u at h;split at h;exact fi h;exact h.elim
def NM:Entry P 257 lz.u:=e0 (t1 aa3) Tryz.func257 fun a K w h=>by unfold lz.u at h;split at h;exact fi h;exact h.elim
def aa9:Entry P 280 pg.u:=e0 (t1 NM) Tryz.func280 fun a K w h=>by unfold pg.u at h;split at h;exact fi h;exact h.elim
def Ye:Entry P 195 ky.u:=e0 (tk NM (tx abm t0)) Tryz.func195 fun a K w h=>by unfold ky.u at h;split at h;exact fi h;exact h.elim
def NN:Entry P 196 kz.u:=e0 (tx abl t0) Tryz.func196 fun a K w h=>by unfold kz.u at h;split at h;exact fi h;exact h.elim
def aaY:Entry P 296 fe.u:=e0 (t1 NN) Tryz.func296 fun a K w h=>by unfold fe.u at h;split at h;exact fi h;exact h.elim
def Uy:Entry P 281 bS.u:=e0 (t2 Ye aaY) Tryz.func281 fun a K w h=>by unfold bS.u at h;split at h;exact fi h;exact h.elim
def abu:Entry P 249 cZ.u:=e0 (t4 Gf XT aa9 Uy) Tryz.func249 fun a K w h=>by unfold cZ.u at h;split at h;exact fi h;exact h.elim
def XR:Entry P 282 pf.u:=en [(3,[(2,.p (some ⟨0,0,none⟩)),(3,.bool false),(4,.p (some ⟨0,0,none⟩)),(8,.l none 0 0),(9,.i 0),(10,.i 0)])] (t1 NN) Tryz.func282 fun a K w h=>by unfold pf.u at h;split at h;exact fi h;exact h.elim
def abt:Entry P 250 iS.u:=e0 (t4 NN NM Uy XR) Tryz.func250 fun a K w h=>by unfold iS.u at h;split at h;exact fi h;exact h.elim
def abr:Entry P 251 ia.u:=e0 (t4 NN NM Uy XR) Tryz.func251 fun a K w h=>by unfold ia.u at h;split at h;exact fi h;exact h.elim
def XW:Entry P 252 dv.u:=e0 (tk HX (tk UG (tk Yi (tk QX (tk Yh (tk UF (tk UE (tk Eb (tk X0 t0))))))))) Tryz.func252 fun a K w h=>by unfold dv.u at h;split at h;exact fi h;exact h.elim
def abR:Entry P 189 kJ.u:=e0 (tk K4 (tk Yf (tk QV (tk Yd (tk QR (tk XY (tk abv (tk XX (tk abu (tk abt (tk abr (tk XW t0)))))))))))) Tryz.func189 fun a K w h=>by unfold kJ.u at h;split at h;exact fi h;exact h.elim
def abi:Entry P 263 fk.u:=e0 (t2 Eb UD) Tryz.func263 fun a K w h=>by unfold fk.u at h;split at h;exact fi h;exact h.elim
def abN:Entry P 198 bh.u:=e0 (t6 K4 HX UF Eb XV abi) Tryz.func198 fun a K w h=>by unfold bh.u at h;split at h;exact fi h;exact h.elim
def Yo:Entry P 142 cw.u:=e0 (t5 K5 Ye NN Yd abN) Tryz.func142 fun a K w h=>by unfold cw.u at h;split at h;exact fi h;exact h.elim
def aa5:Entry P 286 df.u:=e0 (t1 Gf) Tryz.func286 fun a K w h=>by unfold df.u at h;split at h;exact fi h;exact h.elim
def abq:Entry P 253 oR.u:=e0 (t3 K4 QR aa5) Tryz.func253 fun a K w h=>by unfold oR.u at h;split at h;exact fi h;exact h.elim
def abp:Entry P 254 jq.u:=e0 (t2 Gf NM) Tryz.func254 fun a K w h=>by unfold jq.u at h;split at h;exact fi h;exact h.elim
def abo:Entry P 255 iQ.u:=e0 (t1 K5) Tryz.func255 fun a K w h=>by unfold iQ.u at h;split at h;exact fi h;exact h.elim
def abQ:Entry P 190 mo.u:=e0 (tk Yo (tk K4 (tk XY (tk XX (tk XW (tk abq (tk abp (tk abo t0)))))))) Tryz.func190 fun a K w h=>by unfold mo.u at h;split at h;exact fi h;exact h.elim
def ace:Entry P 139 lq.u:=e0 (t4 Yf QV abR abQ) Tryz.func139 fun a K w h=>by unfold lq.u at h;split at h;exact fi h;exact h.elim
def abS:Entry P 186 fq.u:=en [(2,[(8,.i 0),(14,.l none 0 0),(15,.i 0),(16,.i 0)])] (t4 X2 X3 QW ace) Tryz.func186 fun a K w h=>by unfold fq.u at h;split at h;exact fi h;exact h.elim
def acg:Entry P 137 gJ.u:=en [(3,[(8,.l none 0 0),(9,.l none 0 0),(10,.i 0)])] (t3 QW abT abS) Tryz.func137 fun a K w h=>by unfold gJ.u at h;split at h;exact fi h;exact h.elim
def e81:Entry P 81 jC.u:=e0 (t1 acg) Tryz.func81 fun a K w h=>by unfold jC.u at h;split at h;exact fi h;exact h.elim
def acd:Entry P 140 cG.u:=e0 (t1 Eb) Tryz.func140 fun a K w h=>by unfold cG.u at h;split at h;exact fi h;exact h.elim
def aa4:Entry P 287 kn.u:=e0 t0 Tryz.func287 fun a K w h=>by unfold kn.u at h;split at h;exact fi h;exact h.elim
def abn:Entry P 256 gS.u:=e0 (t1 aa4) Tryz.func256 fun a K w h=>by unfold gS.u at h;split at h;exact fi h;exact h.elim
def abO:Entry P 194 cX.u:=e0 (t2 K4 abn) Tryz.func194 fun a K w h=>by unfold cX.u at h;split at h;exact fi h;exact h.elim
def acb:Entry P 141 px.u:=e0 t0 Tryz.func141 fun a K w h=>by unfold px.u at h;split at h;exact fi h;exact h.elim
def e83:Entry P 83 fR.u:=e0 (t1 Yn) Tryz.func83 fun a K w h=>by unfold fR.u at h;split at h;exact fi h;exact h.elim
def aaW:Entry P 82 pZ.u:=e82 mixed acd acb Yo abO
def e33:Entry P 33 nX.u:=e0 (t5 e79 e80 e81 aaW e83) Tryz.func33 fun a K w h=>by unfold nX.u at h;split at h;exact fi h;exact h.elim
def e10:Entry P 10 iB.u:=en [(14,[(2,.p none),(3,.i 0),(6,.p none),(10,.p (some ⟨0,0,none⟩)),(59,.l none 0 0),(60,.i 0),(61,.i 0)])] (tk e27 (tk XS (tk e29 (tk e30 (tk e31 (tk e32 (tk e33 t0))))))) Tryz.func10 fun a K w h=>by unfold iB.u at h;split at h;exact fi h;exact h.elim
def e85:Entry P 85 l9.u:=en [(3,[(4,.l none 0 0),(5,.l none 0 0),(10,.l none 0 0),(11,.i 0),(12,.i 0)])] (t1 K5) Tryz.func85 fun a K w h=>by unfold l9.u at h;split at h;exact fi h;exact h.elim
def e86:Entry P 86 lg.u:=en [(3,[(4,.l none 0 0),(5,.l none 0 0),(10,.l none 0 0),(11,.i 0),(12,.i 0)])] (t1 K4) Tryz.func86 fun a K w h=>by unfold lg.u at h;split at h;exact fi h;exact h.elim
def abM:Entry P 201 cD.u:=en [(9,[(8,.l none 0 0),(9,.i 0),(10,.i 0),(11,.l none 0 0)]),(14,[(8,.l none 0 0),(11,.l none 0 0),(12,.i 0),(13,.i 0)])] (t1 UA) Tryz.func201 fun a K w h=>by unfold cD.u at h;split at h;exact fi h;exact h.elim
def aca:Entry P 146 gO.u:=en [(5,[(8,.l none 0 0),(9,.l none 0 0),(22,.l none 0 0),(23,.i 0),(24,.i 0)])] (t2 UD abM) Tryz.func146 fun a K w h=>by unfold gO.u at h;split at h;exact fi h;exact h.elim
def e87:Entry P 87 jE.u:=en [(3,[(3,.p (some ⟨0,0,none⟩)),(4,.l none 0 0),(5,.l none 0 0),(17,.l none 0 0),(18,.i 0),(19,.i 0)])] (t1 aca) Tryz.func87 fun a K w h=>by unfold jE.u at h;split at h;exact fi h;exact h.elim
def e34:Entry P 34 vu.u:=e0 (t4 e84 e85 e86 e87) Tryz.func34 fun a K w h=>by unfold vu.u at h;split at h;exact fi h;exact h.elim
def NL:Entry P 88 aD.u:=en [(1,[(9,.i 0),(10,.i 0)])] t0 Tryz.func88 fun a K w h=>by unfold aD.u at h;split at h;exact fi h;exact h.elim
def ab9:Entry P 148 nD.u:=en [(3,[(1,.p (some ⟨0,0,none⟩)),(2,.string .empty),(3,.p (some ⟨0,0,none⟩)),(5,.i 0)])] t0 Tryz.func148 fun a K w h=>by unfold nD.u at h;split at h;exact fi h;exact h.elim
def Zg:Entry P 92 gu.u:=e0 (t1 ab9) Tryz.func92 fun a K w h=>by unfold gu.u at h;split at h;exact fi h;exact h.elim
def Yu:Entry P 103 mq.u:=en [(4,[(3,.p (some ⟨0,0,none⟩)),(20,.agg #[]),(21,.i 0)])] (t3 NL Zg Yq) Tryz.func103 fun a K w h=>by unfold mq.u at h;split at h;exact fi h;exact h.elim
def e89:Entry P 89 fV.u:=en [(2,[(12,.l none 0 0),(13,.i 0),(14,.i 0)])] (t2 NL Yu) Tryz.func89 fun a K w h=>by unfold fV.u at h;split at h;exact fi h;exact h.elim
def Yt:Entry P 104 lv.u:=en [(4,[(3,.p (some ⟨0,0,none⟩)),(20,.agg #[]),(21,.i 0)])] (t3 NL Zg Yp) Tryz.func104 fun a K w h=>by unfold lv.u at h;split at h;exact fi h;exact h.elim
def e90:Entry P 90 fG.u:=en [(2,[(12,.l none 0 0),(13,.i 0),(14,.i 0)])] (t2 NL Yt) Tryz.func90 fun a K w h=>by unfold fG.u at h;split at h;exact fi h;exact h.elim
def ab':Entry P 147 iX.u:=e0 (t1 NL) Tryz.func147 fun a K w h=>by unfold iX.u at h;split at h;exact fi h;exact h.elim
def e91:Entry P 91 ig.u:=en [(5,[(3,.p (some ⟨0,0,none⟩)),(30,.agg #[]),(31,.i 0)])] (t3 NL Zg ab') Tryz.func91 fun a K w h=>by unfold ig.u at h;split at h;exact fi h;exact h.elim
def XQ:Entry P 93 bM.u:=e0 t0 Tryz.func93 fun a K w h=>by unfold bM.u at h;split at h;exact fi h;exact h.elim
def e35:Entry P 35 nC.u:=en [(8,[(2,.string .empty),(3,.i 0),(4,.p (some ⟨0,0,none⟩)),(28,.l none 0 0),(29,.i 0),(30,.i 0)])] (tk e78 (tk NL (tk e89 (tk e90 (tk e91 (tk Zg (tk XQ t0))))))) Tryz.func35 fun a K w h=>by unfold nC.u at h;split at h;exact fi h;exact h.elim
def e25:Entry P 25 fQ.u:=e0 t0 Tryz.func25 fun a K w h=>by unfold fQ.u at h;split at h;exact fi h;exact h.elim
def acA:Entry P 101 dI.u:=e0 t0 Tryz.func101 fun a K w h=>by unfold dI.u at h;split at h;exact fi h;exact h.elim
def e42:Entry P 42 dR.u:=e0 (t1 acA) Tryz.func42 fun a K w h=>by unfold dR.u at h;split at h;exact fi h;exact h.elim
def acz:Entry P 102 fo.u:=e0 t0 Tryz.func102 fun a K w h=>by unfold fo.u at h;split at h;exact fi h;exact h.elim
def e43:Entry P 43 fP.u:=e0 (t1 acz) Tryz.func43 fun a K w h=>by unfold fP.u at h;split at h;exact fi h;exact h.elim
def e44:Entry P 44 gV.u:=e0 t0 Tryz.func44 fun a K w h=>by unfold gV.u at h;split at h;exact fi h;exact h.elim
def e45:Entry P 45 lJ.u:=en [(8,[(2,.string .empty),(3,.p (some ⟨0,0,none⟩)),(31,.l none 0 0),(32,.i 0),(33,.i 0)]),(13,[(2,.string .empty),(3,.p (some ⟨0,0,none⟩)),(42,.l none 0 0),(43,.i 0),(44,.i 0)])] (tk e25 (tk e42 (tk e43 (tk e44 (tk NL (tk XQ (tk Yu (tk Yt t0)))))))) Tryz.func45 fun a K w h=>by unfold lJ.u at h;split at h;exact fi h;exact h.elim
def e46:Entry P 46 jn.u:=e0 (t1 K6) Tryz.func46 fun a K w h=>by unfold jn.u at h;split at h;exact fi h;exact h.elim
def acy:Entry P 107 nG.u:=en [(3,[(2,.p (some ⟨0,0,none⟩)),(3,.p (some ⟨0,0,none⟩)),(14,.agg #[]),(15,.i 0)])] (t2 VO LS) Tryz.func107 fun a K w h=>by unfold nG.u at h;split at h;exact fi h;exact h.elim
def e47:Entry P 47 iD.u:=en [(3,[(2,.i 0),(3,.i 0),(9,.i 0),(10,.i 0)])] (t3 XS QY acy) Tryz.func47 fun a K w h=>by unfold iD.u at h;split at h;exact fi h;exact h.elim
def Yb:Entry P 202 gr.u:=e0 t0 Tryz.func202 fun a K w h=>by unfold gr.u at h;split at h;exact fi h;exact h.elim
def ab6:Entry P 153 kC.u:=e0 (tk e62 (tk NL (tk XQ (tk Yg (tk Yb (tk Ya (tk X' t0))))))) Tryz.func153 fun a K w h=>by unfold kC.u at h;split at h;exact fi h;exact h.elim
def Yl:Entry P 155 fY.u:=e0 t0 Tryz.func155 fun a K w h=>by unfold fY.u at h;split at h;exact fi h;exact h.elim
def ab5:Entry P 154 bW.u:=e0 (t3 e26 Ym Yl) Tryz.func154 fun a K w h=>by unfold bW.u at h;split at h;exact fi h;exact h.elim
def UM:Entry P 108 ir.u:=em [4] [(6,[(4,.string .empty),(10,.i 0),(11,.i 0)])] (t4 XS K6 ab6 ab5) Tryz.func108 fun a K w h=>by unfold ir.u at h;split at h;exact fi h;exact h.elim
def UL:Entry P 110 fO.u:=en [(6,[(2,.i 0),(14,.l none 0 0),(15,.i 0),(16,.i 0)])] (t1 Yl) Tryz.func110 fun a K w h=>by unfold fO.u at h;split at h;exact fi h;exact h.elim
def e48:Entry P 48 jN.u:=e0 (t3 UM Ys UL) Tryz.func48 fun a K w h=>by unfold jN.u at h;split at h;exact fi h;exact h.elim
def acx:Entry P 111 mT.u:=en [(5,[(2,.string .empty),(3,.i 0),(4,.p (some ⟨0,0,none⟩)),(20,.agg #[]),(21,.i 0)])] (t3 NL XQ Yk) Tryz.func111 fun a K w h=>by unfold mT.u at h;split at h;exact fi h;exact h.elim
def e49:Entry P 49 mY.u:=e0 (t3 UM UL acx) Tryz.func49 fun a K w h=>by unfold mY.u at h;split at h;exact fi h;exact h.elim
def e50:Entry P 50 eE.u:=e0 t0 Tryz.func50 fun a K w h=>by unfold eE.u at h;split at h;exact fi h;exact h.elim
def e51:Entry P 51 dD.u:=e0 t0 Tryz.func51 fun a K w h=>by unfold dD.u at h;split at h;exact fi h;exact h.elim
def e14:Entry P 14 dj.u:=e0 (tk e45 (tk e46 (tk e47 (tk e48 (tk e49 (tk e50 (tk e51 t0))))))) Tryz.func14 fun a K w h=>by unfold dj.u at h;split at h;exact fi h;exact h.elim
def e94:Entry P 94 dP.u:=e0 (t1 K6) Tryz.func94 fun a K w h=>by unfold dP.u at h;split at h;exact fi h;exact h.elim
def ab8:Entry P 149 kZ.u:=e0 (t3 NL XQ Yb) Tryz.func149 fun a K w h=>by unfold kZ.u at h;split at h;exact fi h;exact h.elim
def e95:Entry P 95 aR.u:=e0 (t5 e94 K6 UM UL ab8) Tryz.func95 fun a K w h=>by unfold aR.u at h;split at h;exact fi h;exact h.elim
def e36:Entry P 36 eH.u:=e0 (t4 e14 e47 e94 e95) Tryz.func36 fun a K w h=>by unfold eH.u at h;split at h;exact fi h;exact h.elim
def e11:Entry P 11 fw.u:=e0 (t5 e32 e33 e34 e35 e36) Tryz.func11 fun a K w h=>by unfold fw.u at h;split at h;exact fi h;exact h.elim
def e16:Entry P 16 jA.u:=e0 (t1 e50) Tryz.func16 fun a K w h=>by unfold jA.u at h;split at h;exact fi h;exact h.elim
def e24:Entry P 24 gR.u:=e0 (t2 e45 e61) Tryz.func24 fun a K w h=>by unfold gR.u at h;split at h;exact fi h;exact h.elim
def e7:Entry P 7 cT.u:=e0 (t6 e9 e10 e11 e16 e24 e25) Tryz.func7 fun a K w h=>by unfold cT.u at h;split at h;exact fi h;exact h.elim
def e8:Entry P 8 gh.u:=en [(3,[(2,.bool false),(3,.i 0),(6,.l none 0 0),(7,.i 0),(8,.i 0)])] t0 Tryz.func8 fun a K w h=>by unfold gh.u at h;split at h;exact fi h;exact h.elim
def e20:Entry P 20 fL.u:=e0 t0 Tryz.func20 fun a K w h=>by unfold fL.u at h;split at h;exact fi h;exact h.elim
def e52:Entry P 52 bK.u:=e0 t0 Tryz.func52 fun a K w h=>by unfold bK.u at h;split at h;exact fi h;exact h.elim
def e53:Entry P 53 au.u:=e0 t0 Tryz.func53 fun a K w h=>by unfold au.u at h;split at h;exact fi h;exact h.elim
def e54:Entry P 54 bg.u:=e0 t0 Tryz.func54 fun a K w h=>by unfold bg.u at h;split at h;exact fi h;exact h.elim
def e55:Entry P 55 aQ.u:=e0 t0 Tryz.func55 fun a K w h=>by unfold aQ.u at h;split at h;exact fi h;exact h.elim
def e21:Entry P 21 cL.u:=en [(4,[(1,.p (some ⟨0,0,none⟩)),(2,.bool false),(16,.l none 0 0),(17,.i 0),(18,.i 0)]),(10,[(1,.p (some ⟨0,0,none⟩)),(2,.bool false),(32,.l none 0 0),(33,.i 0),(34,.i 0)])] (t4 e52 e53 e54 e55) Tryz.func21 fun a K w h=>by unfold cL.u at h;split at h;exact fi h;exact h.elim
def e56:Entry P 56 cz.u:=e0 t0 Tryz.func56 fun a K w h=>by unfold cz.u at h;split at h;exact fi h;exact h.elim
def acw:Entry P 112 aV.u:=en [(1,[(7,.l none 0 0),(8,.i 0),(9,.i 0)])] t0 Tryz.func112 fun a K w h=>by unfold aV.u at h;split at h;exact fi h;exact h.elim
def e57:Entry P 57 dK.u:=e0 (t1 acw) Tryz.func57 fun a K w h=>by unfold dK.u at h;split at h;exact fi h;exact h.elim
def e58:Entry P 58 eV.u:=en [(3,[(2,.l none 0 0),(3,.l none 0 0),(6,.l none 0 0),(7,.i 0),(8,.i 0)])] t0 Tryz.func58 fun a K w h=>by unfold eV.u at h;split at h;exact fi h;exact h.elim
def e59:Entry P 59 dZ.u:=en [(3,[(2,.l none 0 0),(3,.l none 0 0),(6,.l none 0 0),(7,.i 0),(8,.i 0)])] t0 Tryz.func59 fun a K w h=>by unfold dZ.u at h;split at h;exact fi h;exact h.elim
def acv:Entry P 113 fM.u:=e0 t0 Tryz.func113 fun a K w h=>by unfold fM.u at h;split at h;exact fi h;exact h.elim
def Uz:Entry P 265 cK.u:=e0 t0 Tryz.func265 fun a K w h=>by unfold cK.u at h;split at h;exact fi h;exact h.elim
def X9:Entry P 209 eG.u:=en [(3,[(1,.p (some ⟨0,0,none⟩)),(2,.string .empty),(3,.l none 0 0),(4,.i 0)]),(7,[(1,.p (some ⟨0,0,none⟩)),(2,.string .empty),(3,.l none 0 0),(4,.i 0),(5,.i 0),(6,.i 0)]),(16,[(2,.string .empty),(8,.string .empty),(46,.l none 0 0),(47,.i 0),(48,.i 0)])] (t1 Uz) Tryz.func209 fun a K w h=>by unfold eG.u at h;split at h;exact fi h;exact h.elim
def abh:Entry P 264 gg.u:=e0 t0 Tryz.func264 fun a K w h=>by unfold gg.u at h;split at h;exact fi h;exact h.elim
def abL:Entry P 206 ay.u:=e0 (t2 X9 abh) Tryz.func206 fun a K w h=>by unfold ay.u at h;split at h;exact fi h;exact h.elim
def UB:Entry P 207 bP.u:=en [(2,[(3,.p (some ⟨0,0,none⟩)),(4,.i 0),(10,.l none 0 0),(11,.i 0),(12,.i 0)])] t0 Tryz.func207 fun a K w h=>by unfold bP.u at h;split at h;exact fi h;exact h.elim
def abK:Entry P 208 cS.u:=e0 t0 Tryz.func208 fun a K w h=>by unfold cS.u at h;split at h;exact fi h;exact h.elim
def ab4:Entry P 157 dM.u:=e0 (t3 abL UB abK) Tryz.func157 fun a K w h=>by unfold dM.u at h;split at h;exact fi h;exact h.elim
def K3:Entry P 150 aL.u:=e0 t0 Tryz.func150 fun a K w h=>by unfold aL.u at h;split at h;exact fi h;exact h.elim
def NO:Entry P 159 cM.u:=e0 (t1 K3) Tryz.func159 fun a K w h=>by unfold cM.u at h;split at h;exact fi h;exact h.elim
def abJ:Entry P 210 aE.u:=e0 (t2 K3 NO) Tryz.func210 fun a K w h=>by unfold aE.u at h;split at h;exact fi h;exact h.elim
def UH:Entry P 158 aq.u:=e0 (t4 K3 NO X9 abJ) Tryz.func158 fun a K w h=>by unfold aq.u at h;split at h;exact fi h;exact h.elim
def X8:Entry P 211 cx.u:=en [(2,[(3,.p (some ⟨0,0,none⟩)),(4,.i 0),(10,.l none 0 0),(11,.i 0),(12,.i 0)])] t0 Tryz.func211 fun a K w h=>by unfold cx.u at h;split at h;exact fi h;exact h.elim
def X7:Entry P 212 fh.u:=e0 t0 Tryz.func212 fun a K w h=>by unfold fh.u at h;split at h;exact fi h;exact h.elim
def QU:Entry P 213 dF.u:=en [(2,[(2,.p (some ⟨0,0,none⟩)),(3,.p (some ⟨0,0,none⟩)),(4,.bool false),(5,.i 0)])] (t1 Uz) Tryz.func213 fun a K w h=>by unfold dF.u at h;split at h;exact fi h;exact h.elim
def UC:Entry P 203 bp.u:=e0 t0 Tryz.func203 fun a K w h=>by unfold bp.u at h;split at h;exact fi h;exact h.elim
def ab7:Entry P 151 ef.u:=e0 (t1 UC) Tryz.func151 fun a K w h=>by unfold ef.u at h;split at h;exact fi h;exact h.elim
def e99:Entry P 99 aa.u:=en [(3,[(4,.p (some ⟨0,0,none⟩)),(5,.p (some ⟨0,0,none⟩)),(21,.l none 0 0),(22,.i 0),(23,.i 0)])] (t2 K3 ab7) Tryz.func99 fun a K w h=>by unfold aa.u at h;split at h;exact fi h;exact h.elim
def abI:Entry P 214 bY.u:=e0 (t3 e56 e99 UB) Tryz.func214 fun a K w h=>by unfold bY.u at h;split at h;exact fi h;exact h.elim
def X6:Entry P 215 cy.u:=e0 t0 Tryz.func215 fun a K w h=>by unfold cy.u at h;split at h;exact fi h;exact h.elim
def ab3:Entry P 160 ae.u:=e0 (tk K3 (tk UH (tk NO (tk X8 (tk X7 (tk QU (tk abI (tk X6 t0)))))))) Tryz.func160 fun a K w h=>by unfold ae.u at h;split at h;exact fi h;exact h.elim
def abH:Entry P 216 ff.u:=e0 (t1 QU) Tryz.func216 fun a K w h=>by unfold ff.u at h;split at h;exact fi h;exact h.elim
def abg:Entry P 266 gQ.u:=e0 t0 Tryz.func266 fun a K w h=>by unfold gQ.u at h;split at h;exact fi h;exact h.elim
def aaZ:Entry P 292 im.u:=e0 t0 Tryz.func292 fun a K w h=>by unfold im.u at h;split at h;exact fi h;exact h.elim
def abf:Entry P 267 cm.u:=en [(6,[(2,.p (some ⟨0,0,none⟩)),(3,.p (some ⟨0,0,none⟩)),(4,.p (some ⟨0,0,none⟩)),(5,.bool false),(6,.p (some ⟨0,0,none⟩)),(7,.i 0),(8,.i 0)])] (t3 QU Uz aaZ) Tryz.func267 fun a K w h=>by unfold cm.u at h;split at h;exact fi h;exact h.elim
def X5:Entry P 217 bq.u:=e0 (t3 UC abg abf) Tryz.func217 fun a K w h=>by unfold bq.u at h;split at h;exact fi h;exact h.elim
def abG:Entry P 218 aP.u:=e0 (t3 UC QU X5) Tryz.func218 fun a K w h=>by unfold aP.u at h;split at h;exact fi h;exact h.elim
def ab2:Entry P 161 aG.u:=e0 (tk e99 (tk K3 (tk UH (tk NO (tk UB (tk X8 (tk X7 (tk X6 (tk abH (tk X5 (tk abG t0))))))))))) Tryz.func161 fun a K w h=>by unfold aG.u at h;split at h;exact fi h;exact h.elim
def acu:Entry P 114 dT.u:=e0 (t5 ab4 UH NO ab3 ab2) Tryz.func114 fun a K w h=>by unfold dT.u at h;split at h;exact fi h;exact h.elim
def e60:Entry P 60 aT.u:=em [0] [(3,[(0,.p none),(4,.l none 0 0),(5,.p none),(6,.l none 0 0),(7,.i 0)]),(5,[(0,.p none),(4,.l none 0 0),(5,.p none),(6,.l none 0 0),(7,.i 0),(8,.i 0)]),(15,[(0,.p none),(4,.l none 0 0),(5,.p none),(6,.l none 0 0),(7,.i 0),(8,.i 0),(9,.i 0),(10,.i 0),(11,.p none),(12,.i 0)]),(21,[(0,.p none),(4,.l none 0 0),(5,.p none),(6,.l none 0 0),(7,.i 0),(8,.i 0),(9,.i 0),(10,.i 0),(11,.p none),(13,.i 0)])] (t3 e56 acv acu) Tryz.func60 fun a K w h=>by unfold aT.u at h;split at h;exact fi h;exact h.elim
def e22:Entry P 22 dS.u:=e0 (t6 e52 e56 e57 e58 e59 e60) Tryz.func22 fun a K w h=>by unfold dS.u at h;split at h;exact fi h;exact h.elim
def e96:Entry P 96 eS.u:=en [(3,[(4,.l none 0 0),(5,.l none 0 0),(10,.l none 0 0),(11,.i 0),(12,.i 0)]),(6,[(4,.l none 0 0),(5,.l none 0 0),(7,.p (some ⟨0,0,none⟩)),(10,.l none 0 0),(11,.i 0),(12,.i 0),(16,.l none 0 0),(17,.i 0),(18,.i 0)])] t0 Tryz.func96 fun a K w h=>by unfold eS.u at h;split at h;exact fi h;exact h.elim
def e97:Entry P 97 dY.u:=en [(3,[(4,.l none 0 0),(5,.l none 0 0),(10,.l none 0 0),(11,.i 0),(12,.i 0)]),(6,[(4,.l none 0 0),(5,.l none 0 0),(7,.p (some ⟨0,0,none⟩)),(10,.l none 0 0),(11,.i 0),(12,.i 0),(16,.l none 0 0),(17,.i 0),(18,.i 0)])] t0 Tryz.func97 fun a K w h=>by unfold dY.u at h;split at h;exact fi h;exact h.elim
def e98:Entry P 98 aI.u:=en [(3,[(3,.p (some ⟨0,0,none⟩)),(4,.l none 0 0),(5,.l none 0 0),(10,.i 0),(11,.i 0)])] t0 Tryz.func98 fun a K w h=>by unfold aI.u at h;split at h;exact fi h;exact h.elim
def e37:Entry P 37 ga.u:=e0 (t4 e53 e96 e97 e98) Tryz.func37 fun a K w h=>by unfold ga.u at h;split at h;exact fi h;exact h.elim
def e38:Entry P 38 ch.u:=en [(3,[(2,.l none 0 0),(3,.l none 0 0),(9,.i 0),(10,.i 0)])] (t1 e99) Tryz.func38 fun a K w h=>by unfold ch.u at h;split at h;exact fi h;exact h.elim
def e39:Entry P 39 db.u:=en [(4,[(8,.bool false),(24,.i 0),(25,.i 0)]),(10,[(8,.bool false),(39,.i 0),(40,.i 0)])] t0 Tryz.func39 fun a K w h=>by unfold db.u at h;split at h;exact fi h;exact h.elim
def e40:Entry P 40 gP.u:=en [(4,[(4,.bool false),(12,.i 0),(13,.i 0)])] t0 Tryz.func40 fun a K w h=>by unfold gP.u at h;split at h;exact fi h;exact h.elim
def e12:Entry P 12 aw.u:=e0 (tk e20 (tk e21 (tk e22 (tk e37 (tk e38 (tk e39 (tk e40 t0))))))) Tryz.func12 fun a K w h=>by unfold aw.u at h;split at h;exact fi h;exact h.elim
def acB:Entry P 100 aX.u:=en [(4,[(10,.bool false),(48,.i 0),(49,.i 0)]),(10,[(10,.bool false),(66,.i 0),(67,.i 0)])] t0 Tryz.func100 fun a K w h=>by unfold aX.u at h;split at h;exact fi h;exact h.elim
def e41:Entry P 41 dL.u:=e0 (t2 e38 acB) Tryz.func41 fun a K w h=>by unfold dL.u at h;split at h;exact fi h;exact h.elim
def e13:Entry P 13 fF.u:=e0 (t6 e24 e25 e41 e42 e43 e44) Tryz.func13 fun a K w h=>by unfold fF.u at h;split at h;exact fi h;exact h.elim
def e3:Entry P 3 av.u:=en [(9,[(6,.bool false),(8,.p none),(10,.p none),(45,.i 0),(46,.i 0)]),(11,[(6,.bool false),(8,.p none),(10,.p none),(45,.i 0),(46,.i 0),(48,.l none 0 0),(49,.i 0),(50,.i 0)])] (tk e7 (tk e8 (tk e9 (tk e10 (tk e11 (tk e12 (tk e13 (tk e14 t0)))))))) Tryz.func3 fun a K w h=>by unfold av.u at h;split at h;exact fi h;exact h.elim
end Go.Proofs.YtnffemlgkghcfaaGreatDoor
namespace Go.Proofs.YtnffemlgkghcfaaGreatDoor
open Go.ChangeShapes Go.WideShapes Go.ChangeAt Go.RowKit Go.Den Go.Sep Go.Prog Go.Up
def adj(b j:Nat):(ad b 0).add j=⟨b,j,none⟩:=by
 unfold Addr.add;split
 ·rename_i h;rw[h]
 ·simp
def aaO{W:World}(h:laidMetH Tryz.prog Rows.vaultRoomRow.laid W):pK W:=by
 rw[MakeChecks.laidMetH_plain _ _ _ (by kernel_rfl)] at h;obtain⟨ps,⟨g0,t0,Zi,f0,p0,q0,-,-,-,-,⟨g,t,cs,fuel,p,q,hg,ht,hv,hd,⟨g2,t2,Q0,ac1,p2,q2,LK,HB,Qp,O5,-,-⟩,-⟩,-⟩,-,-⟩:=h;obtain rfl:=adU.inj ((show Tryz.prog.globalNamed "bondstore/wide.Most"=some 0 by kernel_rfl).symm.trans hg);obtain rfl:=adU.inj ((show(Tryz.prog.globals[0]?).map (·.type)=some 40 by kernel_rfl).symm.trans ht);obtain rfl:=adU.inj ((show Tryz.prog.globalNamed "bondstore/hold.told"=some 2 by kernel_rfl).symm.trans LK);obtain rfl:=adU.inj ((show(Tryz.prog.globals[2]?).map (·.type)=some 348 by kernel_rfl).symm.trans HB);have c38:Tryz.prog.cellsOf 38=1:=by kernel_rfl
 have c3:Tryz.prog.cellsOf 176=1:=by kernel_rfl
 have c40:Tryz.prog.cellsOf 40=2:=by kernel_rfl
 have acF:Tryz.prog.cellsOf 348=5:=by kernel_rfl
 refine⟨?_,?_⟩
 ·obtain⟨y0,y1,n,ex,hl,k0,k1⟩:=trod_struct2 Tryz.underlying40 hd;rw[c40] at hl;obtain⟨l⟩:=cs
  match l,hl with
  |[a,b],_=>
   have e3:=(DataW.agg.inj (Prod.mk.inj ex).1);simp only[List.cons.injEq,and_true] at e3;rw[c38] at k0 k1;obtain⟨z0,a0,b0,_⟩:=DataW.trod_int Tryz.underlying38 k0;obtain⟨z1,a1,b1,_⟩:=DataW.trod_int Tryz.underlying38 k1;have hc:∀i,W.cell? ⟨0,i,none⟩=[a,b][i]?:=fun i=>by rw[World.var?_cell hg hv i];simp
   simp at a0 a1;subst b0 b1 a0 a1;simp only[DataW.lit.injEq,Lit.int.injEq,true_and] at e3;obtain⟨rfl,rfl⟩:=e3;intro j v hj;rw[adj,hc];exact hj
 ·obtain⟨xs,m,_,ex,hlen,hl,Xn⟩:=DataW.trod_array Tryz.underlying348 O5;rw[acF] at hlen;obtain⟨l⟩:=Q0
  match l,hlen with
  |[a,b,c,d,e],_=>
   match xs,hl with
   |[x0,x1,x2,x3,x4],_=>
    have e3:=(DataW.agg.inj (Prod.mk.inj ex).1);simp only[aeb,afa,List.cons.injEq,and_true] at e3;have k0:=Xn 0 (by omega);have k1:=Xn 1 (by omega);have k2:=Xn 2 (by omega);have k3:=Xn 3 (by omega);have k4:=Xn 4 (by omega);rw[c3] at k0 k1 k2 k3 k4;obtain⟨z0,a0,b0,_⟩:=DataW.trod_int Tryz.underlying176 k0;obtain⟨z1,a1,b1,_⟩:=DataW.trod_int Tryz.underlying176 k1;obtain⟨z2,a2,b2,_⟩:=DataW.trod_int Tryz.underlying176 k2;obtain⟨z3,a3,b3,_⟩:=DataW.trod_int Tryz.underlying176 k3;obtain⟨z4,a4,b4,_⟩:=DataW.trod_int Tryz.underlying176 k4;have hc:∀i,W.cell? ⟨2,i,none⟩=[a,b,c,d,e][i]?:=fun i=>by rw[World.var?_cell LK Qp i];simp
    simp at a0 a1 a2 a3 a4;subst b0 b1 b2 b3 b4 a0 a1 a2 a3 a4;simp only[DataW.lit.injEq,Lit.int.injEq,true_and] at e3;obtain⟨rfl,rfl,rfl,rfl,rfl⟩:=e3;intro j v hj;rw[adj,hc];exact hj
end Go.Proofs.YtnffemlgkghcfaaGreatDoor
namespace Go.Proofs.YtnffemlgkghcfaaGreatDoor
open Go.Sep Go.Den Go.RowKit Go.Prog Go.Up
def Dn{W:World}{a0 a2:Int}{b:OA}{n c:Nat}{xs:LV}(G:pK W)(hr:Ro W b n 18 xs)(he:∀i,i<n→LX W J1 xs (i* 18))(hm:n≤maxLen):
 av.u [.i a0,.slice b n c,.i a2] (fun v w'=>v=.bool true∧Below W.heap.size W w') W:=by
 obtain⟨l,rfl,h1,h2⟩:=Zx hr he;unfold av.u;exact GG (K:=fun v w'=>v=.bool true∧Below W.heap.size W w') (W:=W) (L:=[]) G h1 hm h2 (fun w hs=>⟨rfl,hs.1⟩) W (St.start W)
end Go.Proofs.YtnffemlgkghcfaaGreatDoor
