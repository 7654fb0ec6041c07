/- Part of the proof: see the last text. -/
import Derived.Test.YtnffemlgkghcfaaGreatDoorPD
import Derived.Test.YtnffemlgkghcfaaGreatDoorPB
set_option linter.all false
set_option maxRecDepth 100000
set_option synthInstance.maxSize 100000
open Bool renaming eq_iff_iff→adX,true_and→aeC,false_and→aeL,false_ne_true→ad4,false_eq_true→ad0,and_eq_true→aet
open Decidable renaming not_not→adO
open Go.IntKind renaming i64→adx
open Int renaming toNat_natCast→adB,eq_ofNat_of_zero_le→adL,le_refl→ae5,tmod_eq_emod_of_nonneg→aei
open List renaming getElem?_eq_getElem→adA,take_length→adN,Sublist→adP,take_add_one→adT,getElem_mem→adZ,length_map→ad1,Perm→ad2,getElem?_map→aen,perm_middle→aeM,length_append→adD,getElem?_eq_some_iff→adC,mem_append→aee,length_take→adF,append_nil→adV,take_append_drop→ad5,getElem?_append_right→aea,drop_eq_getElem_cons→aef,getElem?_drop→aeQ,perm_append_comm→adJ,map_append→ad8,length_cons→adW,length_nil→ad6,nil_append→aed,mem_of_getElem?→ad3,mem_or_eq_of_mem_set→aeq,length_set→aeF,append_assoc→adI,length_drop→adM,map_cons→aeb,mem_cons_of_mem→aeE,drop_zero→aeJ,mem_cons→aeS,length_singleton→aeZ,take_zero→ae0,mem_map→aek,find?_eq_none→aeW,set_set→aeO,getElem?_cons_succ→adR,getElem?_append_left→adY,take_of_length_le→adS,getElem?_set→ad7,drop_of_length_le→aeh,drop_drop→aeK,getElem?_of_mem→aeT,take_take→ae9,flatMap_cons→aeo,filter_cons_of_pos→aez,filter_cons_of_neg→aeA,flatMap_append→aex,map_congr_left→aeR,map_nil→afa
open Nat renaming le_refl→adG,zero_le→adK,mul_one→ae8,add_zero→aev,sub_self→aeY,min_eq_left→ae2,zero_add→adE,mul_le_mul_right→aem,pow_le_pow_right→aer,add_mul→aeU,mul_comm→ae',mod_eq_of_lt→aej
open Option renaming map_some→ael,some→adU
namespace Go.Up
open Go.Sep Go.Den Go.RowKit Go.Prog Go.Md Go.bI
structure Dl(q:jG):Prop where
 vl:iA q=true
 writes:eX q=true
 ag:∀a∈q.ag,vy a
 aW:∀t∈q.aW,uY t
def uG(m:Model)(qs:List jG):Model:=qs.foldl (fun m q=>(aK m q).2.2) m
def Cv(m:Model)(qs:List jG)(q:jG):uG m (qs++[q])=(aK (uG m qs) q).2.2:=by unfold uG;rw[List.foldl_append];rfl
def Ca{m0:Model}:∀(k:Nat)(m:Model),yk m0.clock m.kept=k→Md.Ground m→Ru m0 m→Md.Ground {m0 with kept:=m0.kept.map (Bd m0.clock)}:=by
 intro k
 induction k using Nat.strongRecOn with
 |_ k ih=>
  intro m hk hg hx;by_cases hn:∀x∈(bo m).kept,¬kk (bo m).clock x
  ·have:=CH (o9 m) hx hn;rw[←this];exact hg
  ·have:∃x,x∈(bo m).kept∧kk (bo m).clock x:=by
    by_cases he:∃x,x∈(bo m).kept∧kk (bo m).clock x
    ·exact he
    ·exact absurd (fun x hx ho=>he ⟨x,hx,ho⟩) hn
   obtain⟨x,hxm,ho⟩:=this;obtain⟨-,-,m',dh,Qz,TK,xD⟩:=CF (o9 m) hg hx hxm ho;exact ih _ (by omega) m' rfl Qz TK
def ET{m:Model}(hg:Md.Ground m)(now:Int):Md.Ground (m.time now):=by
 rw[Dp];exact Ca _ (qf m now) rfl (yN hg now) (Ru.refl _)
def Gm{q:jG}:(∀a∈(canon q).ag,a∈q.ag)∧(∀t∈(canon q).aW,t∈q.aW)∧(canon q).ag.length≤q.ag.length∧(canon q).aW.length≤q.aW.length:=by
 unfold canon;split
 ·exact⟨fun a h=>h,fun t h=>(by cases h),adG _,adK _⟩
 ·split
  ·exact⟨fun a h=>(by cases h),fun t h=>h,adK _,adG _⟩
  ·exact⟨fun a h=>(by cases h),fun t h=>(by cases h),adK _,adK _⟩
section
variable {W:World} {L R:LH} {K:VK} {X:WK} {v d n pb pj:Nat} {D:aA} {f:aA→LH} {mb:Model} {hd:dU} {qs:List jG}
def mu.two{Y A:HP}{q:jG}{s:sf}(hq:∀L',mu W (A::L') q s):mu W (Y::A::L) q s:=⟨(hq L).ag.mono,(hq L).aW.mono,(hq L).ids.mono,(hq L).ca,(hq L).ct,(hq L).ci⟩
def T.Wo{V O J H B P Dk:HP}(h:T W (B::V::J::Dk::O::R) X):T W (V::O::J::H::B::P::Dk::R) X:=
 T.perm (L:=B::V::J::Dk::O::H::P::R) (T.sub h (by exact nZ)) (by
  have e1:([V,O,J,H,B,P,Dk]:LH).Perm (B::[V,O,J,H,P,Dk]):=aeM (l₁:=[V,O,J,H]) (l₂:=[P,Dk])
  have e2:([O,J,H,P,Dk]:LH).Perm (J::[O,H,P,Dk]):=aeM (l₁:=[O]) (l₂:=[H,P,Dk])
  have e3:([O,H,P,Dk]:LH).Perm (Dk::[O,H,P]):=aeM (l₁:=[O,H,P]) (l₂:=[])
  exact(e1.trans (ad2.cons _ (ad2.cons _ (e2.trans (ad2.cons _ e3))))).append_right R)
def Pk(G:pK W)(ik:D.Ok)(nA:12≤n)(bZ:n≤4096)(hlen:D.safe.length=n)(hb:Vh D n hd mb)(hg:Good (bo mb))(r9:Md.Ground mb)(B3:0≤hd.seq∧hd.seq≤1152921504606846976)
 (DS:(jf D n (2+2* bN n:Nat) hd.seq).1=qs.map cr)(Y1:∀q∈qs,Dl q)
 (h:∀v pb pj,Md.Ground (uG mb qs)→T W (VL v d n pb pj (uG mb qs) ⟨D,⟨(2+2* bN n:Nat),n,(jf D n (2+2* bN n:Nat) hd.seq).2.1,(jf D n (2+2* bN n:Nat) hd.seq).2.2,false⟩,hd.aF,false⟩ R) (K (.tuple ⟨[.p (some ⟨v,0,none⟩),.i 0]⟩))):
 T W (fA d D::R) (iB (some ⟨d,0,none⟩) K):=by
 unfold iB;have OW:2+2* bN n<n:=by unfold bN;omega
 repeat' first|apply ww|apply wm;intro _|apply wb|with_reducible refine Ls (d:=d) ?_|fail
 rw[hlen];refine YL nA bZ ?_
 repeat' first|apply ww|apply wm;intro _|apply wb
 refine fx (by decide) ?_
 repeat' first|apply ww|apply wm;intro _|apply wb
 refine Pm (mb:=mb) (hd:=hd) ik nA bZ hb hg fun pb=>?_
 repeat' first|apply ww|apply wm;intro _|apply wb
 refine fx (by decide) ?_
 repeat' first|apply ww|apply wm;intro _|apply wb
 refine Qn (D:=D) ik (by rw[hlen];omega) B3 fun pj bb c hex=>?_
 repeat' first|apply ww|apply wm;intro _|apply wb
 refine fx (by decide) ?_
 repeat' first|apply ww|apply wm;intro _|apply wb
 rename_i v;rw[DS];refine T.Wo ?_;rw[ad1];have hql:qs.length≤4096:=by obtain⟨n',h1,h2,-⟩:=hex;rw[DS,ad1] at h2;omega
 intro w LC;refine⟨fun vv w=>∃i:Nat,i≤qs.length∧vv=[.p none,.i 0,.p (some ⟨pb,0,none⟩),.p (some (ad v 0)),.l bb qs.length c,.i (qs.length:Int),.i (i:Int)]∧Md.Ground (uG mb (qs.take i))∧
  St W w (bn pb (bo (uG mb (qs.take i)),[])::Sep.pt v (vC d n pb pj hd.aF false)::jP d pj ⟨(2+2* bN n:Nat),n,(jf D n (2+2* bN n:Nat) hd.seq).2.1,(jf D n (2+2* bN n:Nat) hd.seq).2.2,false⟩::fA d D::own bb qs.length c 1 ((qs.map cr).map BU)::R),
  fun vs _=>match vs with|[_,_,_,_,_,_,.int _ k]=>qs.length-k.toNat|_=>0,⟨0,adK _,rfl,r9,LC⟩,?_⟩
 rintro p4 n9 p5 a1 uF qg uE ZO Vu w2 ⟨i,hi,e,VE,gN⟩;cases e
 refine T.at ?_ gN;have e5:adx.wrap ((i:Int)+1)=((i+1:Nat):Int):=by rw[ah (by omega)];omega
 refine az (fun g1=>?_) (fun g1=>?_)
 ·have a8:i<qs.length:=by have:=of_decide_eq_true g1;omega
  have gx:=adA a8;have gq:=Y1 _ (adZ a8);have oQ:qs.take (i+1)=qs.take i++[qs[i]]:=by rw[adT,gx];rfl
  generalize qs[i]=q at gx gq oQ;have Xy:=Cw gq.vl gq.writes gq.ag gq.aW;have Xu:=Bo gq.vl gq.writes;refine bV (b:=bb) ⟨by omega,by omega⟩ fun rb hb=>?_;subst hb;rw[adB,ae8];refine Mi (v:=BU (cr q)) (by rw[aen,aen,gx];rfl) ?_;unfold BU;refine Pr ?_;refine Pg (by have:=E6 gq.vl gq.writes;omega) (fun uK=>by rw[E' gq.vl gq.writes gq.ag gq.aW] at uK;cases uK) (fun _ A sl hq=>?_);rw[Xy] at hq⊢;dsimp only at hq⊢
  repeat' first|apply ww|apply wm;intro _|apply wb
  refine fx (by decide) ?_
  repeat' first|apply ww|apply wm;intro _|apply wb|with_reducible refine xK ?_|fail
  rw[Xu.2];unfold iB.j1
  repeat' first|apply ww|apply wm;intro _|apply wb
  refine T.Tn ?_;have DX:=Gm (q:=q);have Ur:(canon q).op=2→∀t∈(canon q).aW,YK t:=fun ho t ht=>⟨gq.aW t (DX.2.1 t ht),by
   have hf:=nQ Xu.1
   have:∀a∈(canon q).aW,kN a:=by rcases hf with h|h|h|h|h<;>first|exact h.2.2|omega
   exact this t ht⟩
  have AX:=Bn (uG mb (qs.take i)) gq.writes;refine Gb G VE (mu.two hq) (fun _ a ha=>gq.ag a (DX.1 a ha)) Ur fun ON rc2 LK=>?_
  repeat' first|apply ww|apply wm;intro _|apply wb
  rw[AX.1] at LK⊢;rw[e5];have hre:uG mb (qs.take (i+1))=(aK (uG mb (qs.take i)) q).2.2:=by rw[oQ,Cv]
  refine T.sub (M:=bn pb (bo (aK (uG mb (qs.take i)) q).2.2,[])::Sep.pt v (vC d n pb pj hd.aF false)::jP d pj ⟨(2+2* bN n:Nat),n,(jf D n (2+2* bN n:Nat) hd.seq).2.1,(jf D n (2+2* bN n:Nat) hd.seq).2.2,false⟩::fA d D::own (some ⟨rb,0,none⟩) qs.length c 1 ((qs.map cr).map BU)::R) (fun w3 h3=>?_) ?_
  ·exact⟨⟨i+1,a8,rfl,by rw[hre];exact LK,by rw[hre];exact h3⟩,by show qs.length-((i+1:Nat):Int).toNat<qs.length-(i:Int).toNat;omega⟩
  ·repeat (first|exact adP.refl _|apply adP.cons_cons|apply adP.cons)
 ·have iM:i=qs.length:=by have:=of_decide_eq_false g1;omega
  subst iM;rw[adN] at VE⊢;have fin:=h v pb pj VE;refine T.Hj ?_;refine T.sub fin ?_;exact nZ
end
structure Rm(n g:Nat)(S:VS):Prop where
 calm:Sep.Calm n S.D
 ends:∀j:Nat,j<n→Sep.Ends g (S.D.read (j:Int)).1
 lo:S.J.lo=((2+2* bN n:Nat):Int)
 hi:S.J.hi=(n:Int)
 EB:S.J.lo≤S.J.at'
 N9:S.J.at'≤S.J.hi
 seq:0≤S.J.seq∧S.J.seq≤1000000
 js:S.J.fJ=false
 fJ:S.fJ=false
 aF:0≤S.aF∧S.aF≤g
def Rm.ok{n g:Nat}{S:VS}(h:Rm n g S)(hn:n≤4096)(hg:g≤1000):Lq S:=by
 have h1:=h.calm.later;have h2:=h.lo;have h3:=h.EB;have h4:=h.N9;have h5:=h.seq;have h6:=h.aF;have h7:=h.hi;exact⟨h.calm.ok,by omega,⟨by omega,h3,h4,by rw[h.calm.len];omega,by omega⟩,by omega⟩
def FE{n a t g:Nat}{D:aA}{number:Int}{s:BA}(hc:Sep.Calm n D)(he:∀j:Nat,j<n→Sep.Ends g (D.read (j:Int)).1)(bZ:n≤4096)(h1:1≤number)(h2:number≤g+1)(hg:g+1<256)(hl:a+dX s.size≤t)(TN:t≤n):
 (cR D (a:Nat) (t:Nat) number s).2=0∧Sep.Calm n (cR D (a:Nat) (t:Nat) number s).1∧∀j:Nat,j<n→Sep.Ends (g+1) ((cR D (a:Nat) (t:Nat) number s).1.read (j:Int)).1:=by
 obtain⟨f1,f2,f3,f4⟩:=Jb (a:=a) (t:=t) (number:=number) (s:=s) hc bZ ⟨h1,by omega⟩ hl TN;refine⟨f1,f2,fun j hj=>?_⟩;by_cases A5:a≤j∧j<a+dX s.size
 ·obtain⟨q,rfl⟩:∃q,j=a+q:=⟨j-a,by omega⟩;have:=f3 q (by omega);rw[show((a+q:Nat):Int)=(a:Int)+q from by omega,this];obtain⟨m,rfl⟩:=adL (show 0≤number by omega);have vj:Sep.Good m (q:Int) (Sep.part s q):=⟨h1,by omega,by omega,by omega,by
   unfold Sep.part;rw[ByteArray.size_extract];omega⟩
  exact(xJ vj).mono (by omega)
 ·rw[f4 j hj (by omega)];exact(he j hj).mono (by omega)
def zQ{n g:Nat}{m:Model}{S:VS}(h:Rm n g S)(bZ:n≤4096)(nA:12≤n)(hg:g+2<256)(y6:dX (bm (bo m)).length≤bN n)(hlen:(bm (bo m)).length≤425984):
 (ib n m S).2=0∧Rm n (g+2) (ib n m S).1∧(ib n m S).1.J.at'=S.J.lo∧(ib n m S).1.J.lo=S.J.lo∧(ib n m S).1.J.seq=S.J.seq∧(ib n m S).1.aF=S.aF+1:=by
 have r9:=ur (by omega) n h.ends;have VE:=(sK S.D n).1;have A5:=my nA (S.aF+1);have ht:=h.aF;have HC:=h.seq;obtain⟨p1,p2,p3⟩:=FE (a:=cU n (S.aF+1)) (t:=cU n (S.aF+1)+bN n) (g:=g) (number:=cV S.D n+1) (s:=bs (bm (bo m))) h.calm h.ends bZ (by omega) (by omega) (by omega) (by rw[bF];omega) A5.2.1;have FV:=re (S.aF+1);obtain⟨lw,hlw⟩:∃lw:Nat,low (S.aF+1)=(lw:Int)∧lw<2:=by
  rcases FV with hh|hh
  ·exact⟨0,hh,by decide⟩
  ·exact⟨1,hh,by decide⟩
 have hH:kO ⟨S.aF+1,cV S.D n+1,((bm (bo m)).length:Int),S.J.seq⟩:=by
  unfold kO;dsimp only;omega
 have Xi:(iH ⟨S.aF+1,cV S.D n+1,((bm (bo m)).length:Int),S.J.seq⟩).length=32:=by simp only[iH,adD,aB]
 have tO:=h.calm.len;have cp:∀D1:aA,Sep.Calm n D1→(∀j:Nat,j<n→Sep.Ends (g+1) (D1.read (j:Int)).1)→(pI D1 (cV S.D n+2) ⟨S.aF+1,cV S.D n+1,((bm (bo m)).length:Int),S.J.seq⟩).2=0∧Sep.Calm n (pI D1 (cV S.D n+2) ⟨S.aF+1,cV S.D n+1,((bm (bo m)).length:Int),S.J.seq⟩).1∧
  ∀j:Nat,j<n→Sep.Ends (g+2) ((pI D1 (cV S.D n+2) ⟨S.aF+1,cV S.D n+1,((bm (bo m)).length:Int),S.J.seq⟩).1.read (j:Int)).1:=by
  intro D1 c1 e1;have:=FE (a:=lw) (t:=lw+1) (g:=g+1) (number:=cV S.D n+2) (s:=bs (iH ⟨S.aF+1,cV S.D n+1,((bm (bo m)).length:Int),S.J.seq⟩)) c1 e1 bZ (by omega) (by omega) (by omega) (by rw[bF,Xi];show lw+1≤lw+1;omega) (by omega);have e:pI D1 (cV S.D n+2) ⟨S.aF+1,cV S.D n+1,((bm (bo m)).length:Int),S.J.seq⟩=cR D1 ((lw:Nat):Int) ((lw+1:Nat):Int) (cV S.D n+2) (bs (iH ⟨S.aF+1,cV S.D n+1,((bm (bo m)).length:Int),S.J.seq⟩)):=by
   unfold pI cR;rw[if_pos hH];dsimp only;rw[hlw.1]
   rfl
  rw[e];exact this
 unfold ib;rw[tO,if_neg (by rw[h.fJ];decide),if_neg (fun hh=>hh y6),if_neg (by rw[vf];exact fun hh=>hh p1)];obtain⟨c1,c2,c3⟩:=cp (put S.D n (S.aF+1) (cV S.D n+1) (bs (bm (bo m)))).1 p2 p3;rw[if_neg (fun hh=>hh c1)];refine⟨rfl,⟨c2,c3,h.lo,h.hi,ae5 _,?_,h.seq,h.js,h.fJ,?_⟩,rfl,rfl,rfl,rfl⟩
 ·have:=h.EB;have:=h.N9;show S.J.lo≤S.J.hi;omega
 ·show 0≤S.aF+1∧S.aF+1≤((g+2:Nat):Int);omega
def Rm.uH{n g:Nat}{S:VS}(h:Rm n g S):S.J.Ok S.D:=by
 have h2:=h.lo;have h5:=h.seq;have h7:=h.hi;exact⟨by omega,h.EB,h.N9,by rw[h.calm.len];omega,by omega⟩
def uZ{n g:Nat}{S:VS}{s:BA}(h:Rm n g S)(bZ:n≤4096)(hg:g+1<256)(HC:S.J.seq<1000000)(hr:room S.J s.size):
 (ma S s).2=0∧Rm n (g+1) (ma S s).1∧(ma S s).1.J.at'=S.J.at'+(dX (12+s.size):Int)∧(ma S s).1.J.lo=S.J.lo∧(ma S s).1.J.seq=S.J.seq+1∧(ma S s).1.aF=S.aF:=by
 have r9:=ur (by omega) n h.ends;have VE:=(sK S.D n).1;have wW:=h.lo;have vE:=h.EB;obtain⟨D',e1,e2,e3,e4,e5,e6,e7⟩:=Oa (n:=n) (number:=cV S.D n+1) (s:=s) h.calm bZ h.uH h.js (by omega) (by omega) hr;unfold ma;rw[h.calm.len,e1];have nV:∀j:Nat,j<n→Sep.Ends (g+1) (D'.read (j:Int)).1:=fun j hj=>by
  by_cases A5:S.J.at'≤j∧(j:Int)<S.J.at'+(dX (12+s.size):Int)
  ·obtain⟨q,hq⟩:=adL (show 0≤(j:Int) -S.J.at' by omega);have:=e5 q (by omega);rw[show(j:Int)=S.J.at'+(q:Int) from by omega,this];obtain⟨m,hm⟩:=adL (show 0≤cV S.D n+1 by omega);rw[hm];have vj:Sep.Good m (q:Int) (Sep.part (bs (bO (S.J.seq+1) s)) q):=⟨by omega,by omega,by omega,by omega,by
    unfold Sep.part;rw[ByteArray.size_extract];omega⟩
   exact(xJ vj).mono (by omega)
  ·rw[e6 j (by omega) (by omega) (by omega)];exact(h.ends j hj).mono (by omega)
 have OR:=h.fJ;have htu:=h.aF;have adg:=h.seq;refine⟨rfl,⟨e2,nV,h.lo,h.hi,e4.EB,e4.N9,⟨?_,?_⟩,h.js,?_,?_⟩,rfl,rfl,rfl,rfl⟩
 ·show 0≤S.J.seq+1;omega
 ·show S.J.seq+1≤1000000;omega
 ·show(S.fJ||_)=false;rw[OR];rfl
 ·show 0≤S.aF∧S.aF≤((g+1:Nat):Int);omega
def JX{n g:Nat}{m:Model}{S:VS}{s:BA}(h:Rm n g S)(bZ:n≤4096)(nA:12≤n)(hg:g+3<256)(y6:dX (bm (bo m)).length≤bN n)(hlen:(bm (bo m)).length≤425984)(HC:S.J.seq<1000000)(hs:s.size≤32768)(hj:(dX (12+s.size):Int)≤S.J.hi-S.J.lo):
 (hO n m S s).2=0∧(hO n m S s).1.J.lo=S.J.lo∧(hO n m S s).1.J.seq=S.J.seq+1∧
  ((Rm n (g+1) (hO n m S s).1∧(hO n m S s).1.J.at'=S.J.at'+(dX (12+s.size):Int))∨
   (Rm n (g+3) (hO n m S s).1∧(hO n m S s).1.J.at'=S.J.lo+(dX (12+s.size):Int)∧S.J.hi<S.J.at'+(dX (12+s.size):Int))):=by
 unfold hO;by_cases hr:room S.J s.size
 ·rw[if_pos hr];obtain⟨a1,a2,a3,a4,a5,a6⟩:=uZ h bZ (by omega) HC hr;exact⟨a1,a4,a5,.inl ⟨a2,a3⟩⟩
 ·rw[if_neg hr];obtain⟨b1,b2,b3,b4,b5,b6⟩:=zQ h bZ nA (by omega) y6 hlen;have vD:(ib n m S).1.J.hi=S.J.hi:=by rw[b2.hi,h.hi]
  have OV:room (ib n m S).1.J s.size:=by
   refine⟨by omega,by omega,?_⟩;rw[adB,vD,b3];exact hj
  obtain⟨a1,a2,a3,a4,a5,a6⟩:=uZ b2 bZ (by omega) (by omega) OV;rw[if_neg (fun hh=>hh b1)];refine⟨a1,by rw[a4,b4],by rw[a5,b5],.inr ⟨a2,by rw[a3,b3],?_⟩⟩;unfold room at hr;rw[adB] at hr;omega
def Cs{q:jG}(hw:iA q=true)(he:eX q=true):(cr q).length≤924:=by
 have T2:q.op=1∨q.op=2∨q.op=3:=of_decide_eq_true he;have hf:=nQ hw;unfold cr;rw[adD,aB];split
 ·rw[adD,aB,fb oX];omega
 ·split
  ·rw[adD,aB,fb oO];omega
  ·split
   ·rw[aB];omega
   ·omega
def RI(n k:Nat)(S:VS):Prop:=∃g s:Nat,Rm n g S∧g≤k+2* s∧111* (s:Int)+(S.J.at'-S.J.lo)≤9* (k:Int)∧S.J.seq≤(k:Int)
def RI.mono{n k k':Nat}{S:VS}(h:RI n k S)(hk:k≤k'):RI n k' S:=by
 obtain⟨g,s,h1,h2,h3,h4⟩:=h;exact⟨g,s,h1,by omega,by omega,by omega⟩
def Q3{k:Nat}(h:k≤936):dX k≤9:=by unfold dX;split<;>omega
def De{n k:Nat}(hn:600≤n)(h:k≤23925):dX k≤bN n:=by unfold dX bN;split<;>omega
def yf{b:ax}(hg:Good b):(bm b).length≤23925:=by
 have:=hg.mC;have:=hg.many;rw[sh hg];omega
def Pj{n k:Nat}{m:Model}{S:VS}{q:jG}(h:RI n k S)(hn:600≤n∧n≤4096)(hk:k<180)(hg:Good (bo m))(hw:iA q=true)(he:eX q=true):
 (hO n m S (bs (cr q))).2=0∧RI n (k+1) (hO n m S (bs (cr q))).1:=by
 obtain⟨g,s,h1,h2,h3,h4⟩:=h;have qz:=yf hg;have hrl:=Cs hw he;have hc:=Q3 (k:=12+(bs (cr q)).size) (by rw[bF];omega);have vE:=h1.EB;have wW:=h1.lo;have vD:=h1.hi;have yt:120≤S.J.hi-S.J.lo:=by rw[wW,vD];unfold bN;omega
 obtain⟨a1,a2,a3,a4⟩:=JX (s:=bs (cr q)) h1 hn.2 (by omega) (by omega) (De hn.1 qz) (by omega) (by omega) (by rw[bF];omega) (by omega);refine⟨a1,?_⟩;rcases a4 with⟨b1,b2⟩|⟨b1,b2,b3⟩
 ·exact⟨g+1,s,b1,by omega,by rw[b2,a2];omega,by rw[a3];omega⟩
 ·exact⟨g+3,s+1,b1,by omega,by rw[b2,a2];omega,by rw[a3];omega⟩
def SQ{n k:Nat}{m:Model}{S:VS}{q:jG}(h:RI n k S)(hn:600≤n∧n≤4096)(hk:k<180)(hg:Good (bo m))(he:eX q=true):
 RI n (k+1) (vz n m S q).1∧(iA q=false→(vz n m S q).2=(m,1,[]))∧(iA q=true→(vz n m S q).2=((aK m q).2.2,(aK m q).1,(aK m q).2.1)):=by
 unfold vz;by_cases hw:iA q=false
 ·rw[if_pos hw];exact⟨h.mono (by omega),fun _=>rfl,fun h2=>by rw[hw] at h2;cases h2⟩
 ·have TL:iA q=true:=by simpa using hw
  obtain⟨a1,a2⟩:=Pj h hn hk hg TL he;obtain⟨g,s,h1,_⟩:=h;rw[if_neg hw,if_neg (by rw[h1.fJ];decide),if_neg (fun hh=>hh a1)];generalize hO n m S (bs (cr q))=A at a2⊢;generalize aK m q=B;refine⟨?_,fun h2=>absurd h2 hw,fun _=>rfl⟩;dsimp only;exact a2
def EI{n k:Nat}{m:Model}{S:VS}(h:RI n k S)(hn:600≤n∧n≤4096)(hk:k≤180)(hg:Good (bo m)):(ib n m S).2=0∧∃g:Nat,g≤212∧Rm n g (ib n m S).1:=by
 obtain⟨g,s,h1,h2,h3,h4⟩:=h;have qz:=yf hg;have vE:=h1.EB;obtain⟨b1,b2,_⟩:=zQ (m:=m) h1 hn.2 (by omega) (by omega) (De hn.1 qz) (by omega);exact⟨b1,g+2,by omega,b2⟩
def RI.ok{n k:Nat}{S:VS}(h:RI n k S)(hn:600≤n∧n≤4096)(hk:k≤180):Lq S:=by
 obtain⟨g,s,h1,h2,h3,h4⟩:=h;have vE:=h1.EB;exact h1.ok hn.2 (by omega)
def RI.YP{n k:Nat}{m:Model}{S:VS}(h:RI n k S)(hn:600≤n∧n≤4096)(hk:k≤180)(hg:Good (bo m)):Lq (ib n m S).1:=by
 obtain⟨_,g,h1,h2⟩:=EI (m:=m) h hn hk hg;exact h2.ok hn.2 (by omega)
def U'{n:Nat}(hn:600≤n∧n≤4096){J:PJ}(h1:J.lo=((2+2* bN n:Nat):Int))(h2:J.hi=(n:Int))(h3:J.at'=J.lo)(h4:J.seq=0)(h5:J.fJ=false):RI n 0 ⟨aA.new n,J,0,false⟩:=by
 have hb:2+2* bN n≤n:=by unfold bN;omega
 have hr:Rm n 0 ⟨aA.new n,J,0,false⟩:=by
  refine⟨wP hn.2,fun j hj=>?_,h1,h2,Int.le_of_eq h3.symm,?_,?_,h5,rfl,⟨ae5 _,ae5 _⟩⟩
  ·show Sep.Ends 0 ((aA.new n).read (j:Int)).1;rw[tJ hn.2 hj];exact vn
  ·show J.at'≤J.hi;rw[h3,h1,h2];omega
  ·show 0≤J.seq∧J.seq≤1000000;rw[h4];omega
 refine⟨0,0,hr,by omega,?_,?_⟩
 ·show 111* ((0:Nat):Int)+(J.at'-J.lo)≤9* ((0:Nat):Int);rw[h3];omega
 ·show J.seq≤((0:Nat):Int);rw[h4];omega
section
variable {W:World} {L R:LH} {K:VK} {X:WK} {a:aS} {t:Move} {q:jG} {s:sf}
def Kj(h:T W L (K (.bool (decide (m9 a))))):T W L (bg (ak a) K):=by
 unfold bg bg.j1 bg.j2 bg.j3
 repeat' first|apply ww|apply wm;intro _|apply wb|with_reducible refine az (fun h1=>?_) (fun h1=>?_)|fail
 all_goals (refine T.fin (T.dp h) ?_;congr 1;(rw[adX];(try simp only[bz,false_iff,true_iff] at *)<;>(try simp only[m9,adO] at *)<;>omega))
def Ki(h:T W L (K (.bool (decide (kN t))))):T W L (aQ (ai t) K):=by
 unfold aQ aQ.j1 aQ.j2 aQ.j3 aQ.j4 aQ.j5
 repeat' first|apply ww|apply wm;intro _|apply wb|with_reducible refine az (fun h1=>?_) (fun h1=>?_)|fail
 all_goals (refine T.fin (T.dp h) ?_;congr 1;(rw[adX];(try simp only[bz,false_iff,true_iff] at *)<;>(try simp only[kN,adO] at *)<;>omega))
def Fg(h:T W L (K (.bool (eX q)))):T W L (fL (eu q s) K):=by
 unfold fL;unfold eX at h
 repeat' first|apply ww|apply wm;intro _|apply wb|with_reducible refine az (fun h1=>?_) (fun h1=>?_)|fail
 ·have h1:=of_decide_eq_true h1;refine T.fin (T.dp h) ?_;congr 1;rw[decide_eq_decide];omega
 ·have h1:=of_decide_eq_false h1;rw[decide_eq_false (by omega)] at h;exact T.dp h
def CA(h:T W L (K (.bool (km q)))):T W L (bK (eu q s) K):=by
 unfold bK bK.j1 bK.j2
 repeat' first|apply ww|apply wm;intro _|apply wb
 refine az (fun g1=>?_) (fun g1=>?_)
 ·have g1:q.op=1:=by simpa using g1
  unfold km at h;rw[if_pos g1] at h
  repeat' first|apply ww|apply wm;intro _|apply wb
  refine az (fun g2=>?_) (fun g2=>?_)
  ·have g2:=of_decide_eq_true g2;rw[decide_eq_true (by omega),aeC] at h
   repeat' first|apply ww|apply wm;intro _|apply wb
   refine T.fin (T.dp h) ?_;congr 1;rw[decide_eq_decide];omega
  ·have g2:=of_decide_eq_false g2;rw[decide_eq_false (by omega),aeL] at h;exact T.dp h
 have g1: ¬q.op=1:=by simpa using g1
 repeat' first|apply ww|apply wm;intro _|apply wb
 refine az (fun g2=>?_) (fun g2=>?_)
 ·have g2:q.op=2:=by simpa using g2
  unfold km at h;rw[if_neg g1,if_pos g2] at h
  repeat' first|apply ww|apply wm;intro _|apply wb
  refine az (fun g2=>?_) (fun g2=>?_)
  ·have g2:=of_decide_eq_true g2;rw[decide_eq_true (by omega),aeC] at h
   repeat' first|apply ww|apply wm;intro _|apply wb
   refine T.fin (T.dp h) ?_;congr 1;rw[decide_eq_decide];omega
  ·have g2:=of_decide_eq_false g2;rw[decide_eq_false (by omega),aeL] at h;exact T.dp h
 have g2: ¬q.op=2:=by simpa using g2
 unfold km at h;rw[if_neg g1,if_neg g2] at h
 repeat' first|apply ww|apply wm;intro _|apply wb
 refine az (fun g3=>?_) (fun g3=>?_)
 ·have g3:q.op=3:=by simpa using g3
  rw[if_pos g3] at h
  repeat' first|apply ww|apply wm;intro _|apply wb
  refine az (fun g2=>?_) (fun g2=>?_)
  ·have g2:=of_decide_eq_true g2;rw[decide_eq_true (by omega),aeC] at h
   repeat' first|apply ww|apply wm;intro _|apply wb
   exact T.dp h
  ·have g2:=of_decide_eq_false g2;rw[decide_eq_false (by omega),aeL] at h;exact T.dp h
 have g3: ¬q.op=3:=by simpa using g3
 rw[if_neg g3] at h;exact T.dp h
def Cz(h:T W L (K (.bool (lV q)))):T W L (au (eu q s) K):=by
 have main:∀(r1:Nat)(b1:Bool),b1=decide (q.op=4∨q.op=5)→T W (Sep.pt r1 (eu q s)::L) (au.j1 K r1 b1):=fun r1 b1 hb=>by
  unfold au.j1 au.j2;unfold lV at h;by_cases LR:q.op=4∨q.op=5
  ·rw[if_pos LR] at h;rw[decide_eq_true LR] at hb;subst hb
   repeat' first|apply ww|apply wm;intro _|apply wb
   refine az (fun g2=>?_) (fun g2=>?_)
   ·have g2:=of_decide_eq_true g2;rw[decide_eq_true (by omega),aeC] at h
    repeat' first|apply ww|apply wm;intro _|apply wb
    refine T.fin (T.dp h) ?_;congr 1;rw[decide_eq_decide];omega
   ·have g2:=of_decide_eq_false g2;rw[decide_eq_false (by omega),aeL] at h;exact T.dp h
  ·rw[if_neg LR] at h;rw[decide_eq_false LR] at hb;subst hb;rw[cA]
   repeat' first|apply ww|apply wm;intro _|apply wb
   rename_i r2;have j6:∀b:Bool,b=decide (q.op=6∧0≤q.iw∧0≤q.rP∧1≤q.jt∧q.jt≤16)→T W (Sep.pt r2 (mG q)::Sep.pt r1 (eu q s)::L) (au.j6 K r2 b):=fun b hb=>by
    unfold au.j6;cases b with
    |true=>
     have hc:=of_decide_eq_true hb.symm;rw[if_pos hc.1,decide_eq_true hc.2,aeC] at h
     repeat' first|apply ww|apply wm;intro _|apply wb
     cases hd:q.rR with
     |true=>
      rw[hd] at h
      repeat' first|apply ww|apply wm;intro _|apply wb
      exact T.dp h
     |false=>
      rw[hd,Bool.false_or] at h
      repeat' first|apply ww|apply wm;intro _|apply wb
      exact T.dp h
    |false=>
     have hc:=of_decide_eq_false hb.symm
     repeat' first|apply ww|apply wm;intro _|apply wb
     by_cases g6:q.op=6
     ·rw[if_pos g6,decide_eq_false (fun hh=>hc ⟨g6,hh⟩),aeL] at h;exact T.dp h
     ·rw[if_neg g6] at h;exact T.dp h
   have j5:∀b:Bool,b=decide (q.op=6∧0≤q.iw∧0≤q.rP∧1≤q.jt)→T W (Sep.pt r2 (mG q)::Sep.pt r1 (eu q s)::L) (au.j5 K r2 b):=fun b hb=>by
    unfold au.j5;cases b with
    |true=>
     repeat' first|apply ww|apply wm;intro _|apply wb
     refine j6 _ ?_;have:=of_decide_eq_true hb.symm;rw[decide_eq_decide];omega
    |false=>
     repeat' first|apply ww|apply wm;intro _|apply wb
     refine j6 _ ?_;have:=of_decide_eq_false hb.symm;exact(decide_eq_false (by omega)).symm
   have j4:∀b:Bool,b=decide (q.op=6∧0≤q.iw∧0≤q.rP)→T W (Sep.pt r2 (mG q)::Sep.pt r1 (eu q s)::L) (au.j4 K r2 b):=fun b hb=>by
    unfold au.j4;cases b with
    |true=>
     repeat' first|apply ww|apply wm;intro _|apply wb
     refine j5 _ ?_;have:=of_decide_eq_true hb.symm;rw[decide_eq_decide];omega
    |false=>
     repeat' first|apply ww|apply wm;intro _|apply wb
     refine j5 _ ?_;have:=of_decide_eq_false hb.symm;exact(decide_eq_false (by omega)).symm
   have j3:∀b:Bool,b=decide (q.op=6∧0≤q.iw)→T W (Sep.pt r2 (mG q)::Sep.pt r1 (eu q s)::L) (au.j3 K r2 b):=fun b hb=>by
    unfold au.j3;cases b with
    |true=>
     repeat' first|apply ww|apply wm;intro _|apply wb
     refine j4 _ ?_;have:=of_decide_eq_true hb.symm;rw[decide_eq_decide];omega
    |false=>
     repeat' first|apply ww|apply wm;intro _|apply wb
     refine j4 _ ?_;have:=of_decide_eq_false hb.symm;exact(decide_eq_false (by omega)).symm
   refine az (fun g6=>?_) (fun g6=>?_)
   ·have g6:q.op=6:=by simpa using g6
    repeat' first|apply ww|apply wm;intro _|apply wb
    refine j3 _ ?_;rw[decide_eq_decide];omega
   ·have g6: ¬q.op=6:=by simpa using g6
    refine j3 _ ?_;exact(decide_eq_false (by omega)).symm
 unfold au
 repeat' first|apply ww|apply wm;intro _|apply wb
 refine az (fun g1=>?_) (fun g1=>?_)
 ·have Uv:q.op=4:=by simpa using g1
  exact main _ _ (decide_eq_true (.inl Uv)).symm
 ·have Uv: ¬q.op=4:=by simpa using g1
  repeat' first|apply ww|apply wm;intro _|apply wb
  exact main _ _ (by rw[adX];simp[Uv])
def sB(q:jG):mA q=((q.ag.all fun x=> !decide (q.op=1)||decide (m9 x))&&(q.aW.all fun x=> !decide (q.op=2)||decide (kN x))):=by
 unfold mA;by_cases h1:q.op=1
 ·rw[if_pos h1];have h2: ¬q.op=2:=by omega
  simp[h1]
 ·rw[if_neg h1];by_cases h2:q.op=2
  ·rw[if_pos h2];simp[h2]
  ·rw[if_neg h2];simp[h1,h2]
def Aq[hh:Has R L](hq:mu W R q s)(y5:q.ag.length<1000000)(a8:q.aW.length<1000000){r1:Nat}{b1:Bool}(h:T W (Sep.pt r1 (eu q s)::L) (K (.bool (!b1&&mA q)))):T W (Sep.pt r1 (eu q s)::L) (cL.j1 K r1 b1):=by
 unfold cL.j1;cases b1 with
 |true=>rw[jk];exact h
 |false=>
  rw[Bool.not_false,aeC] at h;rw[cA]
  repeat' first|apply ww|apply wm;intro _|apply wb
  intro w ku;refine⟨fun vv w=>∃i:Nat,i≤q.ag.length∧(q.ag.take i).all (fun x=> !decide (q.op=1)||decide (m9 x))=true∧vv=[.p (some ⟨r1,0,none⟩),.bool false,.l s.sa q.ag.length s.ca,.i (q.ag.length:Int),.i (i:Int)]∧St W w (Sep.pt r1 (eu q s)::L),
   fun vs _=>match vs with|[_,_,_,_,.int _ d]=>q.ag.length-d.toNat|_=>0,⟨0,adK _,rfl,rfl,ku⟩,?_⟩
  rintro a1 b2 uF qg uE n2 n3 w2 ⟨i,hi,hU,e,gN⟩;cases e
  refine T.at ?_ gN;have e5:adx.wrap ((i:Int)+1)=((i+1:Nat):Int):=by rw[ah (by omega)];omega
  refine az (fun g1=>?_) (fun g1=>?_)
  ·have a8:i<q.ag.length:=by have:=of_decide_eq_true g1;omega
   have gx:=adA a8;generalize q.ag[i]=x at gx;refine kV hq.ag ⟨by omega,by omega⟩ rfl fun a ha=>?_;rw[adB];refine kT hq.ag ha gx rfl ?_
   repeat' first|apply ww|apply wm;intro _|apply wb
   rw[e5];have step:(!decide (q.op=1)||decide (m9 x))=true→T W (Sep.pt r1 (eu q s)::L) (fun w=>(∃j:Nat,j≤q.ag.length∧(q.ag.take j).all (fun x=> !decide (q.op=1)||decide (m9 x))=true∧[.p (some ⟨r1,0,none⟩),.bool false,.l s.sa q.ag.length s.ca,.i (q.ag.length:Int),.i ((i+1:Nat):Int)]=[.p (some ⟨r1,0,none⟩),.bool false,.l s.sa q.ag.length s.ca,.i (q.ag.length:Int),Value.int .i64 (j:Int)]∧St W w (Sep.pt r1 (eu q s)::L))∧q.ag.length-((i+1:Nat):Int).toNat<q.ag.length-(i:Int).toNat):=fun hp w3 h3=>⟨⟨i+1,a8,by rw[wS gx hU];exact hp,rfl,h3⟩,by omega⟩;refine az (fun g2=>?_) (fun g2=>?_)
   ·have g2:q.op=1:=by simpa using g2
    repeat' first|apply ww|apply wm;intro _|apply wb|with_reducible refine Kj ?_|fail
    by_cases hg:m9 x
    ·rw[decide_eq_true hg]
     repeat' first|apply ww|apply wm;intro _|apply wb
     refine T.drop ?_;exact step (by rw[decide_eq_true hg,Bool.or_true])
    ·rw[decide_eq_false hg]
     repeat' first|apply ww|apply wm;intro _|apply wb
     rw[sB,all_false (P:=fun x=> !decide (q.op=1)||decide (m9 x)) gx (by rw[decide_eq_false hg,decide_eq_true g2];rfl)] at h;rw[aeL] at h;exact T.drop h
   ·have g2: ¬q.op=1:=by simpa using g2
    refine T.drop ?_;exact step (by rw[decide_eq_false g2];rfl)
  ·have iM:i=q.ag.length:=by have:=of_decide_eq_false g1;omega
   subst iM;rw[adN] at hU;have XC:=hU
   repeat' first|apply ww|apply wm;intro _|apply wb
   intro w ku;refine⟨fun vv w=>∃i:Nat,i≤q.aW.length∧(q.aW.take i).all (fun x=> !decide (q.op=2)||decide (kN x))=true∧vv=[.p (some ⟨r1,0,none⟩),.bool false,.l s.st q.aW.length s.ct,.i (q.aW.length:Int),.i (i:Int)]∧St W w (Sep.pt r1 (eu q s)::L),
    fun vs _=>match vs with|[_,_,_,_,.int _ d]=>q.aW.length-d.toNat|_=>0,⟨0,adK _,rfl,rfl,ku⟩,?_⟩
   rintro a1 b2 uF qg uE n2 n3 w2 ⟨i,hi,hU,e,gN⟩;cases e
   refine T.at ?_ gN;have e5:adx.wrap ((i:Int)+1)=((i+1:Nat):Int):=by rw[ah (by omega)];omega
   refine az (fun g1=>?_) (fun g1=>?_)
   ·have a8:i<q.aW.length:=by have:=of_decide_eq_true g1;omega
    have gx:=adA a8;generalize q.aW[i]=x at gx;refine kV hq.aW ⟨by omega,by omega⟩ rfl fun a ha=>?_;rw[adB];refine kT hq.aW ha gx rfl ?_
    repeat' first|apply ww|apply wm;intro _|apply wb
    rw[e5];have step:(!decide (q.op=2)||decide (kN x))=true→T W (Sep.pt r1 (eu q s)::L) (fun w=>(∃j:Nat,j≤q.aW.length∧(q.aW.take j).all (fun x=> !decide (q.op=2)||decide (kN x))=true∧[.p (some ⟨r1,0,none⟩),.bool false,.l s.st q.aW.length s.ct,.i (q.aW.length:Int),.i ((i+1:Nat):Int)]=[.p (some ⟨r1,0,none⟩),.bool false,.l s.st q.aW.length s.ct,.i (q.aW.length:Int),Value.int .i64 (j:Int)]∧St W w (Sep.pt r1 (eu q s)::L))∧q.aW.length-((i+1:Nat):Int).toNat<q.aW.length-(i:Int).toNat):=fun hp w3 h3=>⟨⟨i+1,a8,by rw[wS gx hU];exact hp,rfl,h3⟩,by omega⟩;refine az (fun g2=>?_) (fun g2=>?_)
    ·have g2:q.op=2:=by simpa using g2
     repeat' first|apply ww|apply wm;intro _|apply wb|with_reducible refine Ki ?_|fail
     by_cases hg:kN x
     ·rw[decide_eq_true hg]
      repeat' first|apply ww|apply wm;intro _|apply wb
      refine T.drop ?_;exact step (by rw[decide_eq_true hg,Bool.or_true])
     ·rw[decide_eq_false hg]
      repeat' first|apply ww|apply wm;intro _|apply wb
      rw[sB,all_false (P:=fun x=> !decide (q.op=2)||decide (kN x)) gx (by rw[decide_eq_false hg,decide_eq_true g2];rfl)] at h;rw[Bool.and_false] at h;exact T.drop h
    ·have g2: ¬q.op=2:=by simpa using g2
     refine T.drop ?_;exact step (by rw[decide_eq_false g2];rfl)
   ·have iM:i=q.aW.length:=by have:=of_decide_eq_false g1;omega
    subst iM;rw[adN] at hU;rw[sB,XC,hU] at h;exact h
def Kd[hh:Has R L](hq:mu W R q s)(y5:q.ag.length<1000000)(a8:q.aW.length<1000000)(h:T W L (K (.bool (iA q)))):T W L (cL (eu q s) K):=by
 unfold cL
 repeat' first|apply ww|apply wm;intro _|apply wb|with_reducible refine CA ?_|fail
 unfold iA at h;cases he:km q with
 |true=>
  rw[he,Bool.true_or] at h
  repeat' first|apply ww|apply wm;intro _|apply wb
  exact Aq hq y5 a8 (T.drop h)
 |false=>
  rw[he,Bool.false_or] at h
  repeat' first|apply ww|apply wm;intro _|apply wb|with_reducible refine Cz ?_|fail
  refine Aq hq y5 a8 (T.drop ?_);rw[Bool.not_not];exact h
end
def yY(m:Model)(mb:OA)(mc:Nat)(kb:OA)(kc:Nat):LV:=[.l mb m.made.length mc,.l kb m.kept.length kc,.i m.clock,.i m.af]
instance{m:Model}{mb kb:OA}{mc kc:Nat}:Gt (yY m mb mc kb kc) 0 (.l mb m.made.length mc):=⟨rfl⟩
instance{m:Model}{mb kb:OA}{mc kc:Nat}:Gt (yY m mb mc kb kc) 1 (.l kb m.kept.length kc):=⟨rfl⟩
instance{m:Model}{mb kb:OA}{mc kc:Nat}:Gt (yY m mb mc kb kc) 2 (.i m.clock):=⟨rfl⟩
instance{m:Model}{mb kb:OA}{mc kc:Nat}:Gt (yY m mb mc kb kc) 3 (.i m.af):=⟨rfl⟩
abbrev ML(p:Nat)(m:Model)(mb:OA)(mc:Nat)(kb:OA)(kc:Nat)(R:LH):LH:=Sep.pt p (yY m mb mc kb kc)::own mb m.made.length mc 14 (m.made.flatMap ak)::own kb m.kept.length kc 33 (m.kept.flatMap aM)::R
def AW{α:Type}(P:α→Bool)(l:List α):Int:=match l.findIdx? P with|some i=>(i:Int)|none=> -1
def CT{α:Type}{P:α→Bool}{l:List α}(h:∀x∈l,P x=false):AW P l= -1:=by
 unfold AW;rw[List.findIdx?_eq_none_iff.2 h]
def CS{α:Type}{P:α→Bool}{l:List α}{i:Nat}{x:α}(hx:l[i]?=some x)(hp:P x=true)(h:∀y∈l.take i,P y=false):AW P l=(i:Int):=by
 unfold AW;obtain⟨hi,he⟩:=adC.1 hx;rw[(List.findIdx?_eq_some_iff_getElem (xs:=l) (p:=P)).2 ⟨hi,by rw[he];exact hp,fun j hj=>by
  have Nl:j<l.length:=Nat.lt_trans hj hi
  have:=h (l[j]) (List.mem_take_iff_getElem.2 ⟨j,by omega,rfl⟩)
  rw[this];exact ad4⟩]
def Cj{α:Type}{P:α→Bool}{l:List α}{i:Nat}{x:α}(hx:l[i]?=some x)(hp:P x=false)(h:∀y∈l.take i,P y=false):∀y∈l.take (i+1),P y=false:=fun y hy=>by
 rw[adT,hx,aee] at hy;rcases hy with hy|hy
 ·exact h y hy
 ·cases(show y=x by simpa using hy);exact hp
section
variable {W:World} {L R:LH} {K:VK} {X:WK} {p:Nat} {m:Model} {mb kb:OA} {mc kc:Nat} {a:aS} {t:Move}
def so(hm:m.made.length<1000000){id:Nat}(h:T W (ML p m mb mc kb kc R) (K (.i (AW (fun x:aS=>decide (x.id=id)) m.made)))):T W (ML p m mb mc kb kc R) (bP (some ⟨p,0,none⟩) (nm id) K):=by
 unfold bP
 repeat' first|apply ww|apply wm;intro _|apply wb
 rename_i r1;intro w ku;refine⟨fun vv w=>∃i:Nat,i≤m.made.length∧(∀x∈m.made.take i,decide (x.id=id)=false)∧vv=[.p (some (ad r1 0)),.i 0,.l mb m.made.length mc,.i (m.made.length:Int),.i (i:Int)]∧St W w (Sep.pt r1 (nm id)::ML p m mb mc kb kc R),
  fun vs _=>match vs with|[_,_,_,_,.int _ d]=>m.made.length-d.toNat|_=>0,⟨0,adK _,(fun x hx=>by cases hx),rfl,ku⟩,?_⟩
 rintro a2 n1 uF qg uE n2 n3 w2 ⟨i,hi,hU,e,gN⟩;cases e
 refine T.at ?_ gN;have e5:adx.wrap ((i:Int)+1)=((i+1:Nat):Int):=by rw[ah (by omega)];omega
 refine az (fun g1=>?_) (fun g1=>?_)
 ·have a8:i<m.made.length:=by have:=of_decide_eq_true g1;omega
  have gx:=adA a8;generalize m.made[i]=x at gx;refine bV (b:=mb) ⟨by omega,by omega⟩ fun rb hb=>?_;rw[adB];subst hb;refine dV gL gx ?_
  repeat' first|apply ww|apply wm;intro _|apply wb
  rw[e5];refine az (fun g2=>?_) (fun g2=>?_)
  ·rw[CS gx g2 hU] at h;exact T.dp h
  ·refine T.drop fun w3 h3=>⟨⟨i+1,a8,Cj gx g2 hU,rfl,h3⟩,by show m.made.length-((i+1:Nat):Int).toNat<m.made.length-(i:Int).toNat;omega⟩
 ·have iM:i=m.made.length:=by have:=of_decide_eq_false g1;omega
  subst iM;rw[adN] at hU;rw[CT hU] at h;exact T.dp h
def DE(hm:m.kept.length<1000000){id:Nat}(h:T W (ML p m mb mc kb kc R) (K (.i (AW (fun x:Kept=>decide (x.move.id=id)) m.kept)))):T W (ML p m mb mc kb kc R) (cx (some ⟨p,0,none⟩) (nm id) K):=by
 unfold cx
 repeat' first|apply ww|apply wm;intro _|apply wb
 rename_i r1;intro w ku;refine⟨fun vv w=>∃i:Nat,i≤m.kept.length∧(∀x∈m.kept.take i,decide (x.move.id=id)=false)∧vv=[.p (some (ad r1 0)),.i 0,.l kb m.kept.length kc,.i (m.kept.length:Int),.i (i:Int)]∧St W w (Sep.pt r1 (nm id)::ML p m mb mc kb kc R),
  fun vs _=>match vs with|[_,_,_,_,.int _ d]=>m.kept.length-d.toNat|_=>0,⟨0,adK _,(fun x hx=>by cases hx),rfl,ku⟩,?_⟩
 rintro a2 n1 uF qg uE n2 n3 w2 ⟨i,hi,hU,e,gN⟩;cases e
 refine T.at ?_ gN;have e5:adx.wrap ((i:Int)+1)=((i+1:Nat):Int):=by rw[ah (by omega)];omega
 refine az (fun g1=>?_) (fun g1=>?_)
 ·have a8:i<m.kept.length:=by have:=of_decide_eq_true g1;omega
  have gx:=adA a8;generalize m.kept[i]=x at gx;refine bV (b:=kb) ⟨by omega,by omega⟩ fun rb hb=>?_;rw[adB];subst hb;refine dV hG gx ?_
  repeat' first|apply ww|apply wm;intro _|apply wb
  rw[e5];refine az (fun g2=>?_) (fun g2=>?_)
  ·rw[CS gx g2 hU] at h;exact T.dp h
  ·refine T.drop fun w3 h3=>⟨⟨i+1,a8,Cj gx g2 hU,rfl,h3⟩,by show m.kept.length-((i+1:Nat):Int).toNat<m.kept.length-(i:Int).toNat;omega⟩
 ·have iM:i=m.kept.length:=by have:=of_decide_eq_false g1;omega
  subst iM;rw[adN] at hU;rw[CT hU] at h;exact T.dp h
end
def qN{α:Type}(f:α→α)(i:Nat)(l:List α):List α:=(l.take i).map f++l.drop i
def KV{α:Type}{f:α→α}{i:Nat}{l:List α}:(qN f i l).length=l.length:=by unfold qN;rw[adD,ad1,←adD,ad5]
def HK{α:Type}{f:α→α}{l:List α}:qN f 0 l=l:=rfl
def KW{α:Type}{f:α→α}{l:List α}:qN f l.length l=l.map f:=by unfold qN;rw[adN,List.drop_length,adV]
def F3{α:Type}{f:α→α}{i:Nat}{l:List α}{x:α}(hx:l[i]?=some x):(qN f i l)[i]?=some x:=by
 obtain⟨hi,he⟩:=adC.1 hx;unfold qN;rw[aea (by simp;omega),ad1,adF,ae2 (by omega),aeY,aeQ,aev];exact hx
def C1{α:Type}{f:α→α}{i:Nat}{l:List α}{x:α}(hx:l[i]?=some x):(qN f i l).set i (f x)=qN f (i+1) l:=by
 obtain⟨hi,he⟩:=adC.1 hx;unfold qN;have h1:((l.take i).map f).length=i:=by rw[ad1,adF,ae2 (by omega)]
 rw[List.set_append_right _ _ (by omega),h1,aeY,aef hi,List.set_cons_zero,adT,hx];simp
def HL{α:Type}{f:α→α}{i:Nat}{l:List α}{x:α}(hx:l[i]?=some x)(hf:f x=x):qN f (i+1) l=qN f i l:=by
 rw[←C1 hx,hf];have:=F3 (f:=f) hx;obtain⟨hi,he⟩:=adC.1 this;rw[←he,List.set_getElem_self]
section
variable {W:World} {L R:LH} {K:VK} {X:WK} {p:Nat} {m:Model} {mb kb:OA} {mc kc:Nat} {a:aS} {t:Move}
def xk(hm:m.kept.length<1000000)(hb:∀k∈m.kept,adx.wrap (k.move.born+k.move.timeout)=k.move.born+k.move.timeout)
 (h:T W (ML p {m with kept:=m.kept.map (Bd m.clock)} mb mc kb kc R) (K (.tuple ⟨[]⟩))):T W (ML p m mb mc kb kc R) (aV (some ⟨p,0,none⟩) K):=by
 unfold aV
 repeat' first|apply ww|apply wm;intro _|apply wb
 intro w ku;refine⟨fun vv w=>∃(i:Nat)(l:List Kept),i≤m.kept.length∧l=qN (Bd m.clock) i m.kept∧vv=[.l kb m.kept.length kc,.i (m.kept.length:Int),.i (i:Int)]∧St W w (Sep.pt p (yY m mb mc kb kc)::own mb m.made.length mc 14 (m.made.flatMap ak)::own kb m.kept.length kc 33 (l.flatMap aM)::R),
  fun vs _=>match vs with|[_,_,.int _ d]=>m.kept.length-d.toNat|_=>0,⟨0,m.kept,adK _,HK.symm,rfl,ku⟩,?_⟩
 rintro uF qg uE n1 n2 w2 ⟨i,l,hi,hl,e,gN⟩;cases e
 refine T.at ?_ gN;have e5:adx.wrap ((i:Int)+1)=((i+1:Nat):Int):=by rw[ah (by omega)];omega
 have CV:l.length=m.kept.length:=by rw[hl];exact KV
 refine az (fun g1=>?_) (fun g1=>?_)
 ·have a8:i<m.kept.length:=by have:=of_decide_eq_true g1;omega
  have gx:=adA a8;have hbx:=hb _ (adZ a8);generalize m.kept[i]=x at gx hbx;have gl:l[i]?=some x:=by rw[hl];exact F3 gx
  refine bV (b:=kb) ⟨by omega,by omega⟩ fun rb tQ=>?_;rw[adB];subst tQ;refine dV hG gl ?_;have main:∀(r1:Nat)(b1:Bool),b1=decide (kk m.clock x)→T W (Sep.pt r1 (aM x)::Sep.pt p (yY m mb mc (some ⟨rb,0,none⟩) kc)::own mb m.made.length mc 14 (m.made.flatMap ak)::own (some ⟨rb,0,none⟩) m.kept.length kc 33 (l.flatMap aM)::R)
                                                         (aV.j1 K (some ⟨p,0,none⟩) (i:Int) (fun vv w=>∃(i:Nat)(l:List Kept),i≤m.kept.length∧l=qN (Bd m.clock) i m.kept∧vv=[.l (some ⟨rb,0,none⟩) m.kept.length kc,.i (m.kept.length:Int),.i (i:Int)]∧St W w (Sep.pt p (yY m mb mc (some ⟨rb,0,none⟩) kc)::own mb m.made.length mc 14 (m.made.flatMap ak)::own (some ⟨rb,0,none⟩) m.kept.length kc 33 (l.flatMap aM)::R)) (some ⟨rb,0,none⟩) m.kept.length kc (m.kept.length:Int) (fun vs _=>match vs with|[_,_,.int _ d]=>m.kept.length-d.toNat|_=>0) w2 b1):=fun r1 b1 O8=>by
   unfold aV.j1;rw[e5];cases b1 with
   |true=>
    have Y2:=of_decide_eq_true O8.symm
    repeat' first|apply ww|apply wm;intro _|apply wb
    refine bV (b:=some ⟨rb,0,none⟩) ⟨by omega,by omega⟩ fun ON tQ=>?_;cases tQ
    rw[adB];refine IC ?_;refine zX (o:=i) (x:=x) (y:={x with fate:=4}) hG gl rfl (by decide) rfl ?_;refine T.drop fun w3 h3=>⟨⟨i+1,_,a8,?_,rfl,h3⟩,by show m.kept.length-((i+1:Nat):Int).toNat<m.kept.length-(i:Int).toNat;omega⟩;rw[←C1 gx,hl];unfold Bd;rw[if_pos Y2]
   |false=>
    have Y2:=of_decide_eq_false O8.symm;rw[cA];refine T.drop fun w3 h3=>⟨⟨i+1,_,a8,?_,rfl,h3⟩,by show m.kept.length-((i+1:Nat):Int).toNat<m.kept.length-(i:Int).toNat;omega⟩;rw[HL gx (by unfold Bd;rw[if_neg Y2]),hl]
  repeat' first|apply ww|apply wm;intro _|apply wb
  refine az (fun g2=>?_) (fun g2=>?_)
  ·have g2:x.fate=1:=by simpa using g2
   repeat' first|apply ww|apply wm;intro _|apply wb
   refine az (fun g3=>?_) (fun g3=>?_)
   ·have g3:=of_decide_eq_true g3
    repeat' first|apply ww|apply wm;intro _|apply wb
    rw[hbx];refine main _ _ ?_;rw[decide_eq_decide];exact⟨fun hh=>⟨g2,g3,hh⟩,fun hh=>hh.2.2⟩
   ·have g3:=of_decide_eq_false g3;exact main _ _ (decide_eq_false (fun hh=>g3 hh.2.1)).symm
  ·have g2: ¬x.fate=1:=by simpa using g2
   exact main _ _ (decide_eq_false (fun hh=>g2 hh.1)).symm
 ·have iM:i=m.kept.length:=by have:=of_decide_eq_false g1;omega
  subst iM;rw[KW] at hl;subst hl;unfold ML yY at h;simp only[ad1] at h;exact h
instance Vy{m:Model}{mb kb:OA}{mc kc:Nat}{c:Int}:Wr (yY m mb mc kb kc) 2 [.i c] (yY {m with clock:=c} mb mc kb kc):=⟨rfl,by show 3≤4;decide,fun v h=>by simp at h;subst h;rfl⟩
def PN{now:Int}(hm:m.kept.length<1000000)(hb:∀k∈m.kept,adx.wrap (k.move.born+k.move.timeout)=k.move.born+k.move.timeout)
 (h:T W (ML p (m.time now) mb mc kb kc R) (K (.tuple ⟨[]⟩))):T W (ML p m mb mc kb kc R) (dK (some ⟨p,0,none⟩) now K):=by
 unfold dK;rw[Dp] at h;unfold qf at h
 repeat' first|apply ww|apply wm;intro _|apply wb
 refine az (fun g1=>?_) (fun g1=>?_)
 ·have g1:=of_decide_eq_true g1;refine az (fun g2=>?_) (fun g2=>?_)
  ·have g2:=of_decide_eq_true g2;rw[if_pos ⟨g1,g2⟩] at h
   repeat' first|apply ww|apply wm;intro _|apply wb
   refine xk (m:={m with clock:=now}) hm hb ?_
   repeat' first|apply ww|apply wm;intro _|apply wb
   exact h
  ·have g2:=of_decide_eq_false g2;rw[if_neg (fun hh=>g2 hh.2)] at h;refine xk hm hb ?_
   repeat' first|apply ww|apply wm;intro _|apply wb
   exact h
 ·have g1:=of_decide_eq_false g1;rw[if_neg (fun hh=>g1 hh.1)] at h;refine xk hm hb ?_
  repeat' first|apply ww|apply wm;intro _|apply wb
  exact h
end
def uv{f b:Int}(h0:0≤f)(h1:f<1000000)(hb:1≤b):adx.wrap (f.tdiv b)=f/b:=by
 rw[Int.tdiv_eq_ediv_of_nonneg h0];have h2:=Int.ediv_nonneg h0 (show 0≤b by omega);have h3:=Int.ediv_le_self b h0;exact ah (by omega)
def N3{f b:Int}(h0:0≤f)(h1:f<1000000)(hb:1≤b):(((adx.wrap (f.tdiv b)).tmod (2:Int))==1)=decide (has f b):=by
 rw[uv h0 h1 hb,aei (Int.ediv_nonneg h0 (by omega))];rw[adX,beq_iff_eq,decide_eq_true_eq];exact Iff.rfl
section
variable {W:World} {L R:LH} {K:VK} {X:WK} {a b:aS} {t u:Move}
def Fi{f n:Int}(h0:0≤f∧f<1000000)(hn:1≤n)(h:T W L (K (.bool (decide (has f n))))):T W L (gg f n K):=by
 unfold gg;refine c9 (by omega) ?_;refine c9 (by decide) ?_;rw[N3 h0.1 h0.2 hn];exact h
def Hp(ha:0≤a.flags∧a.flags<256)(hb:0≤b.flags∧b.flags<256)(h:T W L (K (.i (rr a b)))):T W L (cS (ak a) (ak b) K):=by
 unfold cS cS.j1;have e1:(adx.wrap (a.flags.tdiv 2)).tmod 4=a.flags/2%4:=by rw[uv ha.1 (by omega) (by decide),aei (by omega)]
 have e2:(adx.wrap (b.flags.tdiv 2)).tmod 4=b.flags/2%4:=by rw[uv hb.1 (by omega) (by decide),aei (by omega)]
 unfold rr at h
 repeat' first|apply ww|apply wm;intro _|apply wb
 refine az (fun g1=>?_) (fun g1=>?_)
 ·have g1:a.aJ=b.aJ:=by simpa using g1
  repeat' first|apply ww|apply wm;intro _|apply wb
  refine az (fun g2=>?_) (fun g2=>?_)
  ·have g2:a.code=b.code:=by simpa using g2
   repeat' first|apply ww|apply wm;intro _|apply wb|with_reducible refine c9 (by decide) ?_|fail
   refine az (fun g3=>?_) (fun g3=>?_)
   ·rw[e1,e2] at g3;have g3:a.flags/2%4=b.flags/2%4:=by simpa using g3
    rw[if_pos ⟨g1,g2,g3⟩] at h;exact T.dp h
   ·rw[e1,e2] at g3;have g3: ¬a.flags/2%4=b.flags/2%4:=by simpa using g3
    rw[if_neg (fun hh=>g3 hh.2.2)] at h;exact T.dp h
  ·have g2: ¬a.code=b.code:=by simpa using g2
   rw[if_neg (fun hh=>g2 hh.2.1)] at h;exact T.dp h
 ·have g1: ¬a.aJ=b.aJ:=by simpa using g1
  rw[if_neg (fun hh=>g1 hh.1)] at h
  repeat' first|apply ww|apply wm;intro _|apply wb
  exact T.dp h
def jo{n:Int}(h0:0≤t.flags∧t.flags<1000000)(hn:1≤n)(h:T W L (K (.bool (decide (has t.flags n))))):T W L (aL (ai t) n K):=by
 unfold aL
 repeat' first|apply ww|apply wm;intro _|apply wb
 refine c9 (by omega) ?_;refine c9 (by decide) ?_;rw[N3 h0.1 h0.2 hn];exact T.dp h
def rF(h0:0≤t.flags∧t.flags<1000000)(h:T W L (K (.bool (decide (iR t.flags))))):T W L (cM (ai t) K):=by
 unfold cM
 repeat' first|apply ww|apply wm;intro _|apply wb
 refine jo h0 (by decide) ?_
 repeat' first|apply ww|apply wm;intro _|apply wb
 by_cases h4:has t.flags 4
 ·rw[decide_eq_true (show iR t.flags from .inl h4)] at h;rw[decide_eq_true h4]
  repeat' first|apply ww|apply wm;intro _|apply wb
  exact T.dp h
 ·rw[decide_eq_false h4]
  repeat' first|apply ww|apply wm;intro _|apply wb
  refine jo h0 (by decide) ?_
  repeat' first|apply ww|apply wm;intro _|apply wb
  have e:decide (iR t.flags)=decide (has t.flags 8):=by rw[decide_eq_decide];exact⟨fun hh=>hh.resolve_left h4,.inr⟩
  rw[e] at h;exact T.dp h
end
def oJ(x:Int):IntKind.u64.wrap x=x%18446744073709551616:=by
 unfold IntKind.wrap;simp[IntKind.signed,IntKind.bits]
section
variable {W:World} {L R:LH} {K:VK} {X:WK} {a b:Nat}
def vd{r3:Nat}{n1 n2 n7:Int}{b1:Bool}(hb:b1=decide (¬a+b<aO))(h0: ¬b1=true→n7=(((a+b)/18446744073709551616:Nat):Int)∧IntKind.u64.wrap (n1+n2)=(((a+b)%18446744073709551616:Nat):Int))
 (h:T W L (K (.tuple ⟨[.agg ⟨nm (add a b)⟩,.bool (decide (a+b<aO))]⟩))):T W (Sep.pt r3 [.u 0,.u 0]::L) (bp.j1 K r3 n1 n2 n7 b1):=by
 unfold bp.j1;unfold add at h;cases b1 with
 |true=>
  have hb:=of_decide_eq_true hb.symm;rw[if_neg hb,decide_eq_false hb] at h
  repeat' first|apply ww|apply wm;intro _|apply wb
  exact T.dp h
 |false=>
  have hb:=of_decide_eq_false hb.symm;have tQ:a+b<aO:=by omega
  rw[if_pos tQ,decide_eq_true tQ] at h;obtain⟨e1,e2⟩:=h0 (by decide);rw[e1,e2]
  repeat' first|apply ww|apply wm;intro _|apply wb
  exact T.dp h
def pV(ha:a<aO)(hb:b<aO)(h:T W L (K (.tuple ⟨[.agg ⟨nm (add a b)⟩,.bool (decide (a+b<aO))]⟩))):T W L (bp (nm a) (nm b) K):=by
 unfold bp;unfold nm;unfold aO at ha hb;have e1:IntKind.u64.wrap (((a%18446744073709551616:Nat):Int)+((b%18446744073709551616:Nat):Int))=(((a+b)%18446744073709551616:Nat):Int):=by rw[oJ];omega
 repeat' first|apply ww|apply wm;intro _|apply wb
 refine az (fun g1=>?_) (fun g1=>?_)
 ·have g1:=of_decide_eq_true g1;rw[e1] at g1;refine az (fun g2=>?_) (fun g2=>?_)
  ·have g2:=of_decide_eq_true g2;rw[oJ] at g2;refine vd (a:=a) (b:=b) (decide_eq_true (by unfold aO;omega)).symm (fun hh=>absurd rfl hh) ?_;exact T.dp h
  ·have g2:=of_decide_eq_false g2;rw[oJ] at g2;refine vd (a:=a) (b:=b) ?_ (fun hh=>⟨?_,e1⟩) ?_
   ·rw[adX,beq_iff_eq,decide_eq_true_eq,oJ,oJ];unfold aO;omega
   ·rw[beq_iff_eq,oJ,oJ] at hh;rw[oJ,oJ];omega
   ·exact T.dp h
 ·have g1:=of_decide_eq_false g1;rw[e1] at g1;refine vd (a:=a) (b:=b) ?_ (fun hh=>⟨?_,e1⟩) ?_
  ·rw[decide_eq_decide,oJ];unfold aO;omega
  ·rw[decide_eq_true_eq,oJ] at hh;rw[oJ];omega
  ·exact T.dp h
def vY(ha:a<aO)(hb:b<aO)(h:T W L (K (.agg ⟨nm (add a b)⟩))):T W L (ef (nm a) (nm b) K):=by
 unfold ef
 repeat' first|apply ww|apply wm;intro _|apply wb
 refine pV ha hb ?_
 repeat' first|apply ww|apply wm;intro _|apply wb
 exact T.dp h
end
def xR(I1:LV→World→Prop)(pc:LV→World→Nat)(w2:World)(a4 a5:Addr)(rA:OA)(pL rz:Nat)(n2 n3:Int):WK:=fun w3=>
 I1 [.p (some a4),.p (some a5),.l rA pL rz,.i n2,.i (adx.wrap (n3+1))] w3∧pc [.p (some a4),.p (some a5),.l rA pL rz,.i n2,.i (adx.wrap (n3+1))] w3<pc [.p (some a4),.p (some a5),.l rA pL rz,.i n2,.i n3] w2
section
variable {W w2:World} {L R:LH} {K:VK} {r2 r3 r4:Nat} {a:aS} {k:Kept} {I1:LV→World→Prop} {pc:LV→World→Nat} {a4:Addr} {rA:OA} {pL rz:Nat} {n2 n3:Int}
def Ob{b:Bool}(hf:0≤a.flags∧a.flags<1000000)(hb:b=decide (iW a.id k))
 (h:T W (Sep.pt r4 (ai k.move)::Sep.pt r3 (aM k)::Sep.pt r2 (ak {a with flags:=if iW a.id k then a.flags%8+8 else a.flags})::L) (xR I1 pc w2 a4 (ad r2 0) rA pL rz n2 n3)):
 T W (Sep.pt r4 (ai k.move)::Sep.pt r3 (aM k)::Sep.pt r2 (ak a)::L) (aa.TG K (ad r2 0) I1 a4 rA pL rz n2 n3 pc w2 b):=by
 unfold aa.TG;have e1:adx.wrap (a.flags.tmod 8+8)=a.flags%8+8:=by rw[aei hf.1];exact ah (by omega)
 cases b with
 |true=>
  rw[if_pos (of_decide_eq_true hb.symm)] at h
  repeat' first|apply ww|apply wm;intro _|apply wb|with_reducible refine c9 (by decide) ?_|fail
  rw[e1]
  repeat' first|apply ww|apply wm;intro _|apply wb
  exact h
 |false=>
  rw[if_neg (of_decide_eq_false hb.symm)] at h;rw[cA];exact h
def Oc{b:Bool}(hf:0≤a.flags∧a.flags<1000000)(hb:b=decide (has k.move.flags 64∧k.move.aH=a.id∨has k.move.flags 128∧k.move.ar=a.id))
 (h:T W (Sep.pt r4 (ai k.move)::Sep.pt r3 (aM k)::Sep.pt r2 (ak {a with flags:=if iW a.id k then a.flags%8+8 else a.flags})::L) (xR I1 pc w2 a4 (ad r2 0) rA pL rz n2 n3)):
 T W (Sep.pt r4 (ai k.move)::Sep.pt r3 (aM k)::Sep.pt r2 (ak a)::L) (aa.FI K r3 (ad r2 0) I1 a4 rA pL rz n2 n3 pc w2 b):=by
 unfold aa.FI;cases b with
 |true=>
  have hc:=of_decide_eq_true hb.symm
  repeat' first|apply ww|apply wm;intro _|apply wb
  refine az (fun g1=>?_) (fun g1=>?_)
  ·have g1:k.fate=1:=by simpa using g1
   exact Ob hf (decide_eq_true (show iW a.id k from⟨hc,.inl g1⟩)).symm h
  ·have g1: ¬k.fate=1:=by simpa using g1
   repeat' first|apply ww|apply wm;intro _|apply wb
   refine Ob hf ?_ h;rw[adX,beq_iff_eq,decide_eq_true_eq];exact⟨fun hh=>⟨hc,.inr hh⟩,fun hh=>hh.2.resolve_left g1⟩
 |false=>
  have hc:=of_decide_eq_false hb.symm;rw[cA];exact Ob hf (decide_eq_false (show ¬iW a.id k from fun hh=>hc hh.1)).symm h
def Sy{b:Bool}(hf:0≤a.flags∧a.flags<1000000)(hm:0≤k.move.flags∧k.move.flags<1000000)(hb:b=decide (has k.move.flags 64∧k.move.aH=a.id))
 (h:T W (Sep.pt r4 (ai k.move)::Sep.pt r3 (aM k)::Sep.pt r2 (ak {a with flags:=if iW a.id k then a.flags%8+8 else a.flags})::L) (xR I1 pc w2 a4 (ad r2 0) rA pL rz n2 n3)):
 T W (Sep.pt r4 (ai k.move)::Sep.pt r3 (aM k)::Sep.pt r2 (ak a)::L) (aa.Vz K r3 (ad r2 0) I1 a4 rA pL rz n2 n3 pc w2 r4 b):=by
 unfold aa.Vz;cases b with
 |true=>
  have hc:=of_decide_eq_true hb.symm;rw[jk];exact Oc hf (decide_eq_true (.inl hc)).symm h
 |false=>
  have hc:=of_decide_eq_false hb.symm;rw[cA]
  repeat' first|apply ww|apply wm;intro _|apply wb
  refine jo hm (by decide) ?_
  repeat' first|apply ww|apply wm;intro _|apply wb
  by_cases g1:has k.move.flags 128
  ·rw[decide_eq_true g1]
   repeat' first|apply ww|apply wm;intro _|apply wb
   refine Oc hf ?_ h;rw[decide_eq_decide];exact⟨fun hh=>.inr ⟨g1,hh⟩,fun hh=>(hh.resolve_left hc).2⟩
  ·rw[decide_eq_false g1]
   repeat' first|apply ww|apply wm;intro _|apply wb
   exact Oc hf (decide_eq_false (fun hh=>g1 (hh.resolve_left hc).1)).symm h
def acK(hf:0≤a.flags∧a.flags<1000000)(hm:0≤k.move.flags∧k.move.flags<1000000)
 (h:T W (Sep.pt r4 (ai k.move)::Sep.pt r3 (aM k)::Sep.pt r2 (ak {a with flags:=if iW a.id k then a.flags%8+8 else a.flags})::L) (xR I1 pc w2 a4 (ad r2 0) rA pL rz n2 n3)):
 T W (Sep.pt r4 (ai k.move)::Sep.pt r3 (aM k)::Sep.pt r2 (ak a)::L) (aa.j9 K r4 (ad r2 0) r3 I1 a4 rA pL rz n2 n3 pc w2):=by
 unfold aa.j9
 repeat' first|apply ww|apply wm;intro _|apply wb
 refine jo hm (by decide) ?_
 repeat' first|apply ww|apply wm;intro _|apply wb
 by_cases g1:has k.move.flags 64
 ·rw[decide_eq_true g1]
  repeat' first|apply ww|apply wm;intro _|apply wb
  refine Sy hf hm ?_ h;rw[decide_eq_decide];exact⟨fun hh=>⟨g1,hh⟩,fun hh=>hh.2⟩
 ·rw[decide_eq_false g1]
  repeat' first|apply ww|apply wm;intro _|apply wb
  exact Sy hf hm (decide_eq_false (fun hh=>g1 hh.1)).symm h
def acL{b:Bool}(h1:a.cp<aO)(h2:k.move.aC<aO)(h:T W (Sep.pt r4 (ai k.move)::Sep.pt r3 (aM k)::Sep.pt r2 (ak {a with cp:=if b=true then add a.cp k.move.aC else a.cp})::L) (aa.j9 K r4 (ad r2 0) r3 I1 a4 rA pL rz n2 n3 pc w2)):T W (Sep.pt r4 (ai k.move)::Sep.pt r3 (aM k)::Sep.pt r2 (ak a)::L) (aa.j8 K (ad r2 0) r4 r3 I1 a4 rA pL rz n2 n3 pc w2 b):=by
 unfold aa.j8;cases b with
 |true=>
  rw[if_pos rfl] at h
  repeat' first|apply ww|apply wm;intro _|apply wb
  refine vY h1 h2 ?_
  repeat' first|apply ww|apply wm;intro _|apply wb
  exact h
 |false=>
  rw[if_neg ad4] at h;rw[cA];exact h
def acM(h1:a.cp<aO)(h2:k.move.aC<aO)(h:T W (Sep.pt r4 (ai k.move)::Sep.pt r3 (aM k)::Sep.pt r2 (ak {a with cp:=if k.fate=1∧k.move.ar=a.id then add a.cp k.move.aC else a.cp})::L) (aa.j9 K r4 (ad r2 0) r3 I1 a4 rA pL rz n2 n3 pc w2)):T W (Sep.pt r4 (ai k.move)::Sep.pt r3 (aM k)::Sep.pt r2 (ak a)::L) (aa.j7 K r3 r4 (ad r2 0) I1 a4 rA pL rz n2 n3 pc w2):=by
 unfold aa.j7;have fin:∀b:Bool,b=decide (k.fate=1∧k.move.ar=a.id)→T W (Sep.pt r4 (ai k.move)::Sep.pt r3 (aM k)::Sep.pt r2 (ak a)::L) (aa.j8 K (ad r2 0) r4 r3 I1 a4 rA pL rz n2 n3 pc w2 b):=fun b hb=>by
  refine acL h1 h2 ?_;have e:(if b=true then add a.cp k.move.aC else a.cp)=(if k.fate=1∧k.move.ar=a.id then add a.cp k.move.aC else a.cp):=by
   subst hb;by_cases hc:k.fate=1∧k.move.ar=a.id
   ·rw[if_pos (decide_eq_true hc),if_pos hc]
   ·rw[if_neg (by rw[decide_eq_false hc];exact ad4),if_neg hc]
  rw[e];exact h
 repeat' first|apply ww|apply wm;intro _|apply wb
 refine az (fun g1=>?_) (fun g1=>?_)
 ·have g1:k.fate=1:=by simpa using g1
  repeat' first|apply ww|apply wm;intro _|apply wb
  refine fin _ ?_;rw[decide_eq_decide];exact⟨fun hh=>⟨g1,hh⟩,fun hh=>hh.2⟩
 ·have g1: ¬k.fate=1:=by simpa using g1
  exact fin _ (decide_eq_false (fun hh=>g1 hh.1)).symm
def acN{b:Bool}(h1:a.dp<aO)(h2:k.move.aC<aO)(h:T W (Sep.pt r4 (ai k.move)::Sep.pt r3 (aM k)::Sep.pt r2 (ak {a with dp:=if b=true then add a.dp k.move.aC else a.dp})::L) (aa.j7 K r3 r4 (ad r2 0) I1 a4 rA pL rz n2 n3 pc w2)):T W (Sep.pt r4 (ai k.move)::Sep.pt r3 (aM k)::Sep.pt r2 (ak a)::L) (aa.j6 K (ad r2 0) r4 r3 I1 a4 rA pL rz n2 n3 pc w2 b):=by
 unfold aa.j6;cases b with
 |true=>
  rw[if_pos rfl] at h
  repeat' first|apply ww|apply wm;intro _|apply wb
  refine vY h1 h2 ?_
  repeat' first|apply ww|apply wm;intro _|apply wb
  exact h
 |false=>
  rw[if_neg ad4] at h;rw[cA];exact h
def acO(h1:a.dp<aO)(h2:k.move.aC<aO)(h:T W (Sep.pt r4 (ai k.move)::Sep.pt r3 (aM k)::Sep.pt r2 (ak {a with dp:=if k.fate=1∧k.move.aH=a.id then add a.dp k.move.aC else a.dp})::L) (aa.j7 K r3 r4 (ad r2 0) I1 a4 rA pL rz n2 n3 pc w2)):T W (Sep.pt r4 (ai k.move)::Sep.pt r3 (aM k)::Sep.pt r2 (ak a)::L) (aa.j5 K r3 r4 (ad r2 0) I1 a4 rA pL rz n2 n3 pc w2):=by
 unfold aa.j5;have fin:∀b:Bool,b=decide (k.fate=1∧k.move.aH=a.id)→T W (Sep.pt r4 (ai k.move)::Sep.pt r3 (aM k)::Sep.pt r2 (ak a)::L) (aa.j6 K (ad r2 0) r4 r3 I1 a4 rA pL rz n2 n3 pc w2 b):=fun b hb=>by
  refine acN h1 h2 ?_;have e:(if b=true then add a.dp k.move.aC else a.dp)=(if k.fate=1∧k.move.aH=a.id then add a.dp k.move.aC else a.dp):=by
   subst hb;by_cases hc:k.fate=1∧k.move.aH=a.id
   ·rw[if_pos (decide_eq_true hc),if_pos hc]
   ·rw[if_neg (by rw[decide_eq_false hc];exact ad4),if_neg hc]
  rw[e];exact h
 repeat' first|apply ww|apply wm;intro _|apply wb
 refine az (fun g1=>?_) (fun g1=>?_)
 ·have g1:k.fate=1:=by simpa using g1
  repeat' first|apply ww|apply wm;intro _|apply wb
  refine fin _ ?_;rw[decide_eq_decide];exact⟨fun hh=>⟨g1,hh⟩,fun hh=>hh.2⟩
 ·have g1: ¬k.fate=1:=by simpa using g1
  exact fin _ (decide_eq_false (fun hh=>g1 hh.1)).symm
def acP{b:Bool}(h1:a.cq<aO)(h2:k.move.aC<aO)(h:T W (Sep.pt r4 (ai k.move)::Sep.pt r3 (aM k)::Sep.pt r2 (ak {a with cq:=if b=true then add a.cq k.move.aC else a.cq})::L) (aa.j5 K r3 r4 (ad r2 0) I1 a4 rA pL rz n2 n3 pc w2)):T W (Sep.pt r4 (ai k.move)::Sep.pt r3 (aM k)::Sep.pt r2 (ak a)::L) (aa.j4 K (ad r2 0) r4 r3 I1 a4 rA pL rz n2 n3 pc w2 b):=by
 unfold aa.j4;cases b with
 |true=>
  rw[if_pos rfl] at h
  repeat' first|apply ww|apply wm;intro _|apply wb
  refine vY h1 h2 ?_
  repeat' first|apply ww|apply wm;intro _|apply wb
  exact h
 |false=>
  rw[if_neg ad4] at h;rw[cA];exact h
def acQ{b1:Bool}(h1:a.cq<aO)(h2:k.move.aC<aO)(h:T W (Sep.pt r4 (ai k.move)::Sep.pt r3 (aM k)::Sep.pt r2 (ak {a with cq:=if b1=true∧k.move.ar=a.id then add a.cq k.move.aC else a.cq})::L) (aa.j5 K r3 r4 (ad r2 0) I1 a4 rA pL rz n2 n3 pc w2)):T W (Sep.pt r4 (ai k.move)::Sep.pt r3 (aM k)::Sep.pt r2 (ak a)::L) (aa.j3 K b1 r4 (ad r2 0) r3 I1 a4 rA pL rz n2 n3 pc w2):=by
 unfold aa.j3;have fin:∀b:Bool,b=decide (b1=true∧k.move.ar=a.id)→T W (Sep.pt r4 (ai k.move)::Sep.pt r3 (aM k)::Sep.pt r2 (ak a)::L) (aa.j4 K (ad r2 0) r4 r3 I1 a4 rA pL rz n2 n3 pc w2 b):=fun b hb=>by
  refine acP h1 h2 ?_;have e:(if b=true then add a.cq k.move.aC else a.cq)=(if b1=true∧k.move.ar=a.id then add a.cq k.move.aC else a.cq):=by
   subst hb;by_cases hc:b1=true∧k.move.ar=a.id
   ·rw[if_pos (decide_eq_true hc),if_pos hc]
   ·rw[if_neg (by rw[decide_eq_false hc];exact ad4),if_neg hc]
  rw[e];exact h
 cases b1 with
 |true=>
  repeat' first|apply ww|apply wm;intro _|apply wb
  refine fin _ ?_;rw[decide_eq_decide];exact⟨fun hh=>⟨rfl,hh⟩,fun hh=>hh.2⟩
 |false=>
  rw[cA];exact fin _ (decide_eq_false (fun hh=>ad4 hh.1)).symm
def acR{b:Bool}{b1:Bool}(h1:a.dq<aO)(h2:k.move.aC<aO)(h:T W (Sep.pt r4 (ai k.move)::Sep.pt r3 (aM k)::Sep.pt r2 (ak {a with dq:=if b=true then add a.dq k.move.aC else a.dq})::L) (aa.j3 K b1 r4 (ad r2 0) r3 I1 a4 rA pL rz n2 n3 pc w2)):T W (Sep.pt r4 (ai k.move)::Sep.pt r3 (aM k)::Sep.pt r2 (ak a)::L) (aa.j2 K (ad r2 0) r4 b1 r3 I1 a4 rA pL rz n2 n3 pc w2 b):=by
 unfold aa.j2;cases b with
 |true=>
  rw[if_pos rfl] at h
  repeat' first|apply ww|apply wm;intro _|apply wb
  refine vY h1 h2 ?_
  repeat' first|apply ww|apply wm;intro _|apply wb
  exact h
 |false=>
  rw[if_neg ad4] at h;rw[cA];exact h
def acS{b1:Bool}(h1:a.dq<aO)(h2:k.move.aC<aO)(h:T W (Sep.pt r4 (ai k.move)::Sep.pt r3 (aM k)::Sep.pt r2 (ak {a with dq:=if b1=true∧k.move.aH=a.id then add a.dq k.move.aC else a.dq})::L) (aa.j3 K b1 r4 (ad r2 0) r3 I1 a4 rA pL rz n2 n3 pc w2)):T W (Sep.pt r4 (ai k.move)::Sep.pt r3 (aM k)::Sep.pt r2 (ak a)::L) (aa.j1 K r4 (ad r2 0) r3 I1 a4 rA pL rz n2 n3 pc w2 b1):=by
 unfold aa.j1;have fin:∀b:Bool,b=decide (b1=true∧k.move.aH=a.id)→T W (Sep.pt r4 (ai k.move)::Sep.pt r3 (aM k)::Sep.pt r2 (ak a)::L) (aa.j2 K (ad r2 0) r4 b1 r3 I1 a4 rA pL rz n2 n3 pc w2 b):=fun b hb=>by
  refine acR h1 h2 ?_;have e:(if b=true then add a.dq k.move.aC else a.dq)=(if b1=true∧k.move.aH=a.id then add a.dq k.move.aC else a.dq):=by
   subst hb;by_cases hc:b1=true∧k.move.aH=a.id
   ·rw[if_pos (decide_eq_true hc),if_pos hc]
   ·rw[if_neg (by rw[decide_eq_false hc];exact ad4),if_neg hc]
  rw[e];exact h
 cases b1 with
 |true=>
  repeat' first|apply ww|apply wm;intro _|apply wb
  refine fin _ ?_;rw[decide_eq_decide];exact⟨fun hh=>⟨rfl,hh⟩,fun hh=>hh.2⟩
 |false=>
  rw[cA];exact fin _ (decide_eq_false (fun hh=>ad4 hh.1)).symm
end
def GJ(a:aS):Prop:=a.dp<aO∧a.dq<aO∧a.cp<aO∧a.cq<aO∧0≤a.flags∧a.flags<1000000
def VU(k:Kept):Prop:=k.move.aC<aO∧0≤k.move.flags∧k.move.flags<1000000
def Bz(a b:Nat):add a b<aO:=by
 unfold add;split
 ·assumption
 ·unfold aO;decide
def PM{a:aS}{k:Kept}(h:GJ a):GJ (sn a k):=by
 obtain⟨h1,h2,h3,h4,h5,h6⟩:=h;refine⟨?_,?_,?_,?_,?_,?_⟩
 ·show(if _ then _ else _)<aO;split;exact Bz _ _;exact h1
 ·show(if _ then _ else _)<aO;split;exact Bz _ _;exact h2
 ·show(if _ then _ else _)<aO;split;exact Bz _ _;exact h3
 ·show(if _ then _ else _)<aO;split;exact Bz _ _;exact h4
 ·show 0≤(if iW a.id k then a.flags%8+8 else a.flags);split<;>omega
 ·show(if iW a.id k then a.flags%8+8 else a.flags)<1000000;split<;>omega
def E9{a:aS}(l:List Kept)(h:GJ a):GJ (l.foldl sn a):=by
 induction l generalizing a with
 |nil=>exact h
 |cons k l ih=>exact ih (PM h)
section
variable {W w2:World} {L R:LH} {K:VK} {r2 r3 r4 p:Nat} {a:aS} {k:Kept} {m:Model} {mb kb:OA} {mc kc:Nat} {I1:LV→World→Prop} {pc:LV→World→Nat} {a4:Addr} {rA:OA} {pL rz:Nat} {n2 n3:Int}
def U5{b1:Bool}(ha:GJ a)(hk:VU k)(hb:b1=decide (jx k))
 (h:T W (Sep.pt r4 (ai k.move)::Sep.pt r3 (aM k)::Sep.pt r2 (ak (sn a k))::L) (xR I1 pc w2 a4 (ad r2 0) rA pL rz n2 n3)):
 T W (Sep.pt r4 (ai k.move)::Sep.pt r3 (aM k)::Sep.pt r2 (ak a)::L) (aa.j1 K r4 (ad r2 0) r3 I1 a4 rA pL rz n2 n3 pc w2 b1):=by
 obtain⟨h1,h2,h3,h4,h5,h6⟩:=ha;obtain⟨k1,k2,k3⟩:=hk;have e:∀(P:Prop) [Decidable P](x y:Nat),(if b1=true∧P then x else y)=if jx k∧P then x else y:=fun P _ x y=>by
  subst hb;by_cases hc:jx k
  ·by_cases hp:P
   ·rw[if_pos ⟨decide_eq_true hc,hp⟩,if_pos ⟨hc,hp⟩]
   ·rw[if_neg (fun hh=>hp hh.2),if_neg (fun hh=>hp hh.2)]
  ·rw[if_neg (fun hh=>hc (of_decide_eq_true hh.1)),if_neg (fun hh=>hc hh.1)]
 refine acS h2 k1 ?_;refine acQ h4 k1 ?_;refine acO h1 k1 ?_;refine acM h3 k1 ?_;refine acK (show 0≤a.flags∧a.flags<1000000 from⟨h5,h6⟩) ⟨k2,k3⟩ ?_;rw[e,e];exact h
def zk{i:Nat}(hn:m.kept.length<1000000)(hx:m.made[i]?=some a)(ha:GJ a)(hk:∀k∈m.kept,VU k)
 (h:T W (ML p m mb mc kb kc R) (K (.agg ⟨ak (m.kept.foldl sn a)⟩))):T W (ML p m mb mc kb kc R) (aa (some ⟨p,0,none⟩) (i:Int) K):=by
 unfold aa;have HH:=(adC.1 hx).1
 repeat' first|apply ww|apply wm;intro _|apply wb
 rename_i r1;refine bV (b:=mb) ⟨by omega,by omega⟩ fun rb hb=>?_;rw[adB];subst hb;refine dV gL hx ?_
 repeat' first|apply ww|apply wm;intro _|apply wb
 rename_i r2;intro w ku;refine⟨fun vv w=>∃j:Nat,j≤m.kept.length∧vv=[.p (some (ad r1 0)),.p (some (ad r2 0)),.l kb m.kept.length kc,.i (m.kept.length:Int),.i (j:Int)]∧St W w (Sep.pt r2 (ak ((m.kept.take j).foldl sn a))::Sep.pt r1 (ak zA)::ML p m (some ⟨rb,0,none⟩) mc kb kc R),
  fun vs _=>match vs with|[_,_,_,_,.int _ d]=>m.kept.length-d.toNat|_=>0,⟨0,adK _,rfl,ku⟩,?_⟩
 rintro a4 a5 rA pL rz n2 n3 w2 ⟨j,hj,e,gN⟩;cases e
 refine T.at ?_ gN;have e5:adx.wrap ((j:Int)+1)=((j+1:Nat):Int):=by rw[ah (by omega)];omega
 refine az (fun g1=>?_) (fun g1=>?_)
 ·have a8:j<m.kept.length:=by have:=of_decide_eq_true g1;omega
  have gx:=adA a8;have Nk:=hk _ (adZ a8);generalize m.kept[j]=x at gx Nk;refine bV (b:=kb) ⟨by omega,by omega⟩ fun rk tQ=>?_;rw[adB];subst tQ;refine dV hG gx ?_
  repeat' first|apply ww|apply wm;intro _|apply wb
  rename_i r3 r4;have aaB:=E9 (m.kept.take j) ha;have fy:(m.kept.take (j+1)).foldl sn a=sn ((m.kept.take j).foldl sn a) x:=by rw[adT,gx,List.foldl_append];rfl
  have fin:∀b1:Bool,b1=decide (jx x)→T W (Sep.pt r4 (ai x.move)::Sep.pt r3 (aM x)::Sep.pt r2 (ak ((m.kept.take j).foldl sn a))::Sep.pt r1 (ak zA)::ML p m (some ⟨rb,0,none⟩) mc (some ⟨rk,0,none⟩) kc R)
   (aa.j1 K r4 (ad r2 0) r3 (fun vv w=>∃j:Nat,j≤m.kept.length∧vv=[.p (some (ad r1 0)),.p (some (ad r2 0)),.l (some ⟨rk,0,none⟩) m.kept.length kc,.i (m.kept.length:Int),.i (j:Int)]∧St W w (Sep.pt r2 (ak ((m.kept.take j).foldl sn a))::Sep.pt r1 (ak zA)::ML p m (some ⟨rb,0,none⟩) mc (some ⟨rk,0,none⟩) kc R)) (ad r1 0) (some ⟨rk,0,none⟩) m.kept.length kc (m.kept.length:Int) (j:Int) (fun vs _=>match vs with|[_,_,_,_,.int _ d]=>m.kept.length-d.toNat|_=>0) w2 b1):=fun b1 O8=>by
   refine U5 aaB Nk O8 ?_;unfold xR;rw[e5];refine T.drop (T.drop fun w3 h3=>⟨⟨j+1,a8,rfl,by rw[fy];exact h3⟩,by show m.kept.length-((j+1:Nat):Int).toNat<m.kept.length-(j:Int).toNat;omega⟩)
  refine jo ⟨Nk.2.1,Nk.2.2⟩ (by decide) ?_
  repeat' first|apply ww|apply wm;intro _|apply wb
  by_cases g2:has x.move.flags 2
  ·rw[decide_eq_true g2]
   repeat' first|apply ww|apply wm;intro _|apply wb
   exact fin _ (decide_eq_false (fun hh=>hh.1 g2)).symm
  ·rw[decide_eq_false g2]
   repeat' first|apply ww|apply wm;intro _|apply wb
   refine jo ⟨Nk.2.1,Nk.2.2⟩ (by decide) ?_
   repeat' first|apply ww|apply wm;intro _|apply wb
   refine fin _ ?_;by_cases g3:has x.move.flags 8
   ·rw[decide_eq_true g3];exact(decide_eq_false (fun hh=>hh.2 g3)).symm
   ·rw[decide_eq_false g3];exact(decide_eq_true (show jx x from⟨g2,g3⟩)).symm
 ·have iM:j=m.kept.length:=by have:=of_decide_eq_false g1;omega
  subst iM;rw[adN]
  repeat' first|apply ww|apply wm;intro _|apply wb
  exact T.dp h
def yj(hm:m.made.length<1000000)(hn:m.kept.length<1000000)(ha:∀a∈m.made,GJ a)(hk:∀k∈m.kept,VU k)
 (h:∀ob oc,T W (ML p m mb mc kb kc (own ob m.made.length oc 14 ((m.made.map m.full).flatMap ak)::R)) (K (.l ob m.made.length oc))):T W (ML p m mb mc kb kc R) (ch (some ⟨p,0,none⟩) K):=by
 unfold ch
 repeat' first|apply ww|apply wm;intro _|apply wb
 refine gB (e:=14) ?_;refine T.perm (L:=ML p m mb mc kb kc (own none 0 0 14 []::R)) ?_ (adJ (l₁:=[own none 0 0 14 []]) (l₂:=[_,_,_])|>.append_right R);intro w ku;refine⟨fun vv w=>∃(i:Nat)(ob:OA)(oc:Nat)(out:List aS),i≤m.made.length∧out=(m.made.take i).map m.full∧vv=[.l none 0 0,.l ob i oc,.i (m.made.length:Int),.i (i:Int)]∧St W w (ML p m mb mc kb kc (own ob i oc 14 (out.flatMap ak)::R)),
  fun vs _=>match vs with|[_,_,_,.int _ d]=>m.made.length-d.toNat|_=>0,⟨0,none,0,[],adK _,rfl,rfl,ku⟩,?_⟩
 rintro uF qg uE ob i oc n1 n2 w2 ⟨i0,ob0,oc0,out,hi,tg,e,gN⟩;cases e
 refine T.at ?_ gN;have e5:adx.wrap ((i:Int)+1)=((i+1:Nat):Int):=by rw[ah (by omega)];omega
 refine az (fun g1=>?_) (fun g1=>?_)
 ·have a8:i<m.made.length:=by have:=of_decide_eq_true g1;omega
  have gx:=adA a8;have hax:=ha _ (adZ a8);generalize m.made[i]=x at gx hax;refine zk hn gx hax hk ?_
  repeat' first|apply ww|apply wm;intro _|apply wb
  refine jm (g:=ak) (l:=out) (x:=m.full x) (adV _) rfl rfl (by omega) (by omega) (gn _) fun b' c'=>?_;rw[e5];refine T.drop fun w3 h3=>⟨⟨i+1,b',c',out++[m.full x],a8,?_,rfl,h3⟩,by show m.made.length-((i+1:Nat):Int).toNat<m.made.length-(i:Int).toNat;omega⟩;rw[adT,gx,ad8,tg];rfl
 ·have iM:i=m.made.length:=by have:=of_decide_eq_false g1;omega
  subst iM;rw[adN] at tg;subst tg;exact h ob oc
end
instance Vx{m:Model}{mb kb:OA}{mc kc:Nat}{c:Int}:Wr (yY m mb mc kb kc) 3 [.i c] (yY {m with af:=c} mb mc kb kc):=⟨rfl,by show 4≤4;decide,fun v h=>by simp at h;subst h;rfl⟩
instance WE{m:Model}{mb kb b:OA}{mc kc n c:Nat}:Wr (yY m mb mc kb kc) 1 [.l b n c] [.l mb m.made.length mc,.l b n c,.i m.clock,.i m.af]:=⟨rfl,by show 2≤4;decide,fun v h=>by simp at h;subst h;rfl⟩
instance WD{m:Model}{mb kb b:OA}{mc kc n c:Nat}:Wr (yY m mb mc kb kc) 0 [.l b n c] [.l b n c,.l kb m.kept.length kc,.i m.clock,.i m.af]:=⟨rfl,by show 1≤4;decide,fun v h=>by simp at h;subst h;rfl⟩
section
variable {W w2:World} {L R:LH} {K:VK} {p:Nat} {a:aS} {t u:Move} {m:Model} {mb kb:OA} {mc kc:Nat}
def DF{fate:Int}(hn:m.kept.length<1000000)(hs:0≤m.af∧m.af<1000000)
 (h:∀b c,T W (ML p (m.kY t u fate) mb mc b c R) (K (.tuple ⟨[]⟩))):T W (ML p m mb mc kb kc R) (cy (some ⟨p,0,none⟩) (ai t) (ai u) fate K):=by
 unfold cy;have e1:adx.wrap (m.af+1)=m.af+1:=ah (by omega)
 repeat' first|apply ww|apply wm;intro _|apply wb
 rw[e1]
 repeat' first|apply ww|apply wm;intro _|apply wb
 refine jm (b:=kb) (g:=aM) (l:=m.kept) (x:=⟨t,{u with af:=m.af+1,born:=m.clock},fate⟩) (adV _) rfl rfl (by show(m.kept.length+1)* 264≤_;omega) (by show m.kept.length+1≤_;omega) (j0 _) fun b' c'=>?_
 repeat' first|apply ww|apply wm;intro _|apply wb
 have:=h b' c';unfold Model.kY ML yY at this;simp only[adD,adW,ad6,adE] at this;refine T.sub this ?_;exact nZ
end
section
variable {W:World} {L R:LH} {K:VK} {X:WK} {p r e:Nat} {A B:HP} {m:Model} {mb kb:OA} {mc kc:Nat}
def xe(e:Nat)(h:T W (own (some ⟨r,0,none⟩) 0 0 e []::L) X):T W (Sep.pt r []::L) X:=fun w hs=>
 h w (St.xn (k:=0) (L:=Sep.pt r []::L) (xs:=[]) (sp:=[]) (n:=0) (c:=0) (e:=e) (by simp) (by simp) (adG _) (by simp) hs)
def T.swap(h:T W (B::A::L) X):T W (A::B::L) X:=T.perm h (ad2.swap _ _ _)
def T.Mt{C:HP}(h:T W (A::C::B::L) X):T W (A::B::C::L) X:=T.perm h ((ad2.swap _ _ _).cons _)
def DG(hm:m.made.length<1000000)(hn:m.kept.length<1000000)
 (h:∀p2 mb2 mc2 ZS kc2,T W (ML p2 m mb2 mc2 ZS kc2 (ML p m mb mc kb kc R)) (K (.p (some ⟨p2,0,none⟩)))):T W (ML p m mb mc kb kc R) (cz (some ⟨p,0,none⟩) K):=by
 unfold cz
 repeat' first|apply ww|apply wm;intro _|apply wb
 ·rename_i r1;refine xe 14 ?_;refine om (l0:=([]:List aS)) (l1:=m.made) gL rfl (by omega) gn fun b2 c2=>?_;rw[adE,aed]
  repeat' first|apply ww|apply wm;intro _|apply wb
  refine xe 33 ?_;refine om (l0:=([]:List Kept)) (l1:=m.kept) hG rfl (by omega) j0 fun b3 c3=>?_;rw[adE,aed]
  repeat' first|apply ww|apply wm;intro _|apply wb
  exact T.Mt (h _ _ _ _ _)
 ·rename_i r1 r4;refine T.swap ?_;refine xe 14 ?_;refine om (l0:=([]:List aS)) (l1:=m.made) gL rfl (by omega) gn fun b2 c2=>?_;rw[adE,aed];refine T.swap ?_
  repeat' first|apply ww|apply wm;intro _|apply wb
  refine xe 33 ?_;refine om (l0:=([]:List Kept)) (l1:=m.kept) hG rfl (by omega) j0 fun b3 c3=>?_;rw[adE,aed]
  repeat' first|apply ww|apply wm;intro _|apply wb
  exact T.Mt (h _ _ _ _ _)
 ·rename_i r6 r7;refine xe 14 ?_;refine om (l0:=([]:List aS)) (l1:=m.made) gL rfl (by omega) gn fun b2 c2=>?_;rw[adE,aed];refine T.swap ?_
  repeat' first|apply ww|apply wm;intro _|apply wb
  refine xe 33 ?_;refine om (l0:=([]:List Kept)) (l1:=m.kept) hG rfl (by omega) j0 fun b3 c3=>?_;rw[adE,aed]
  repeat' first|apply ww|apply wm;intro _|apply wb
  exact T.Mt (h _ _ _ _ _)
end
section
variable {W:World} {L R:LH} {K:VK} {X:WK} {p r e:Nat} {a:aS} {m:Model} {mb kb:OA} {mc kc:Nat}
def Oz{ks:List Kept}(hl:ks.length=m.kept.length)(h:T W (ML p {m with kept:=ks} mb mc kb kc R) X):T W (Sep.pt p (yY m mb mc kb kc)::own mb m.made.length mc 14 (m.made.flatMap ak)::own kb m.kept.length kc 33 (ks.flatMap aM)::R) X:=by
 unfold ML yY at h;rw[hl] at h;exact h
def Kc{Q' i id:Nat}{x:Kept}(hm:m.made.length<1000000)(hn:m.kept.length<1000000)(gx:m.kept[Q']?=some x)(hi:AW (fun x:aS=>decide (x.id=id)) m.made=(i:Int))(hx:m.made[i]?=some a)(ha:GJ a)(hk:∀k∈m.kept,VU k)
 (h:T W (ML p m mb mc kb kc R) (K (.bool (decide (8≤((m.kept.set Q' {x with fate:=3}).foldl sn a).flags))))):T W (ML p m mb mc kb kc R) (bY (some ⟨p,0,none⟩) (nm id) (Q':Int) K):=by
 unfold bY;have Xx:=(adC.1 gx).1;have Nk:VU x:=hk x (ad3 gx)
 repeat' first|apply ww|apply wm;intro _|apply wb
 rename_i r1;refine T.perm (L:=ML p m mb mc kb kc (Sep.pt r1 (nm id)::R)) ?_ (adJ (l₁:=[Sep.pt r1 (nm id)]) (l₂:=[_,_,_])|>.append_right R);refine DG hm hn fun p2 mb2 mc2 ZS kc2=>?_
 repeat' first|apply ww|apply wm;intro _|apply wb
 refine bV (b:=ZS) ⟨by omega,by omega⟩ fun rb hb=>?_;rw[adB];subst hb;refine IC ?_;refine zX (o:=Q') (x:=x) (y:={x with fate:=3}) hG gx rfl (by decide) rfl ?_
 repeat' first|apply ww|apply wm;intro _|apply wb
 refine Oz (ks:=m.kept.set Q' {x with fate:=3}) aeF ?_;refine so (m:={m with kept:=m.kept.set Q' {x with fate:=3}}) hm ?_;rw[hi]
 repeat' first|apply ww|apply wm;intro _|apply wb
 refine zk (m:={m with kept:=m.kept.set Q' {x with fate:=3}}) (by rw[aeF];exact hn) hx ha (fun k rj=>?_) ?_
 ·rcases aeq rj with hh|hh
  ·exact hk k hh
  ·subst hh;exact Nk
 repeat' first|apply ww|apply wm;intro _|apply wb
 intro w hw;refine⟨_,rfl,?_⟩
 revert w hw
 show T W _ _
 repeat' first|apply ww|apply wm;intro _|apply wb
 refine T.sub h ?_;exact nZ
end
section
variable {W:World} {L R:LH} {K:VK} {X:WK} {t u:Move}
def Kg(h:T W L (K (.agg ⟨nm (aO-1)⟩))):T W L (gQ K):=by
 unfold gQ
 repeat' first|apply ww|apply wm;intro _|apply wb
 exact T.dp h
def Ay(ht:0≤t.flags∧t.flags<1000000)(hu:0≤u.flags∧u.flags<1000000)(h:T W L (K (.i (qw t u)))):T W L (fh (ai t) (ai u) K):=by
 unfold fh;unfold qw at h
 repeat' first|apply ww|apply wm;intro _|apply wb|with_reducible refine c9 (by decide) ?_|fail
 rw[uv ht.1 ht.2 (by decide)]
 repeat' first|apply ww|apply wm;intro _|apply wb|with_reducible refine c9 (by decide) ?_|fail
 rw[uv hu.1 hu.2 (by decide)]
 repeat' first|apply ww|apply wm;intro _|apply wb|with_reducible refine Ml ?_|fail
 refine az (fun g1=>?_) (fun g1=>?_)
 ·have g1:=of_decide_eq_true g1;rw[if_pos g1] at h;exact T.dp h
 ·have g1:=of_decide_eq_false g1;rw[if_neg g1] at h;exact T.dp h
end
def IP{m j:Nat}(hj:j≤64):shr .u64 (m:Int) (j:Int)=((m/2^j:Nat):Int):=by
 unfold shr;rw[adB,show min j IntKind.u64.bits=j from ae2 hj,Int.fdiv_eq_ediv_of_nonneg _ (by exact Int.le_of_lt (Int.pow_pos (by decide)))];rw[show((2:Int)^j)=((2^j:Nat):Int) by push_cast;rfl];exact(Int.natCast_ediv _ _).symm
def JF(m:Nat):adx.wrap (((m:Nat):Int).tmod (2:Int))=((m%2:Nat):Int):=by
 rw[aei (by omega)];rw[ah (by omega)];omega
section
variable {W:World} {L R:LH} {K:VK} {X:WK}
def qi{n j:Nat}(hn:n<aO)(hj:j<128)(h:T W L (K (.i ((n/2^j%2:Nat):Int)))):T W L (cK (nm n) (j:Int) K):=by
 unfold cK;unfold nm
 repeat' first|apply ww|apply wm;intro _|apply wb
 refine az (fun g1=>?_) (fun g1=>?_)
 ·have g1:=of_decide_eq_true g1;obtain⟨i,rfl⟩:∃i:Nat,j=64+i:=⟨j-64,by omega⟩;have e1:adx.wrap (((64+i:Nat):Int) -64)=(i:Int):=by rw[ah (by omega)];omega
  have e2:IntKind.u64.wrap (i:Int)=(i:Int):=by rw[Go.Up.oJ];omega
  rw[e1,e2]
  repeat' first|apply ww|apply wm;intro _|apply wb
  refine c9 (by omega) ?_;refine c9 (by decide) ?_;rw[IP (by omega),JF];have e3:n/2^(64+i)=n/18446744073709551616/2^i:=by rw[Nat.div_div_eq_div_mul,Nat.pow_add]
  rw[e3] at h;exact T.dp h
 ·have g1:=of_decide_eq_false g1;have e2:IntKind.u64.wrap (j:Int)=(j:Int):=by rw[Go.Up.oJ];omega
  rw[e2]
  repeat' first|apply ww|apply wm;intro _|apply wb
  refine c9 (by omega) ?_;refine c9 (by decide) ?_;rw[IP (by omega),JF];have e3:n%18446744073709551616/2^j%2=n/2^j%2:=by
   rw[show(18446744073709551616:Nat)=2^j* 2^(64-j) by rw[←Nat.pow_add,show j+(64-j)=64 by omega],Nat.mod_mul_right_div_self];exact Nat.mod_mod_of_dvd _ ⟨2^(63-j),by rw[show 64-j=1+(63-j) by omega,Nat.pow_add]⟩
  rw[e3];exact T.dp h
end
def wJ(a i:Nat):a/2^i/2=a/2^(i+1):=by rw[Nat.div_div_eq_div_mul,Nat.pow_succ]
def Na{a b i:Nat}(h:a/2^(i+1)=b/2^(i+1))(ji:a/2^i%2≠b/2^i%2):decide (((a/2^i%2:Nat):Int)<((b/2^i%2:Nat):Int))=decide (a<b):=by
 rw[←wJ,←wJ] at h;rw[decide_eq_decide]
 constructor
 ·intro hl;have:a/2^i<b/2^i:=by omega
  exact Nat.lt_of_not_le fun hh=>absurd (Nat.div_le_div_right (c:=2^i) hh) (by omega)
 ·intro hl;have:=Nat.div_le_div_right (c:=2^i) (Nat.le_of_lt hl);omega
section
variable {W:World} {L R:LH} {K:VK} {X:WK}
def uk{a b:Nat}(ha:a<aO)(hb:b<aO)(h:T W L (K (.bool (decide (a<b))))):T W L (dF (nm a) (nm b) K):=by
 unfold dF
 repeat' first|apply ww|apply wm;intro _|apply wb
 rename_i r1 r2;intro w ku;refine⟨fun vv w=>∃j:Nat,j≤128∧a/2^j=b/2^j∧vv=[.p (some (ad r1 0)),.p (some (ad r2 0)),.bool false,.i ((j:Int) -1)]∧St W w (Sep.pt r2 (nm b)::Sep.pt r1 (nm a)::L),
  fun vs _=>match vs with|[_,_,_,.int _ d]=>(d+1).toNat|_=>0,⟨128,adG _,by rw[Nat.div_eq_of_lt (show a<2^128 from ha),Nat.div_eq_of_lt (show b<2^128 from hb)],rfl,ku⟩,?_⟩
 rintro a1 a2 b1 n1 w2 ⟨j,hj,heq,e,gN⟩;cases e
 refine T.at ?_ gN;refine az (fun g1=>?_) (fun g1=>?_)
 ·have g1:=of_decide_eq_true g1;obtain⟨i,rfl⟩:∃i:Nat,j=i+1:=⟨j-1,by omega⟩;have e1:(((i+1:Nat):Int) -1)=(i:Int):=by omega
  have e2:adx.wrap ((i:Int) -1)=(i:Int) -1:=ah (by omega);rw[e1,e2]
  repeat' first|apply ww|apply wm;intro _|apply wb
  refine qi ha (by omega) ?_
  repeat' first|apply ww|apply wm;intro _|apply wb
  refine qi hb (by omega) ?_
  repeat' first|apply ww|apply wm;intro _|apply wb
  refine az (fun g2=>?_) (fun g2=>?_)
  ·have g2:a/2^i%2≠b/2^i%2:=fun hh=>by rw[hh] at g2;simp at g2
   repeat' first|apply ww|apply wm;intro _|apply wb
   refine qi ha (by omega) ?_
   repeat' first|apply ww|apply wm;intro _|apply wb
   refine qi hb (by omega) ?_
   repeat' first|apply ww|apply wm;intro _|apply wb
   rw[Na heq g2];exact T.dp h
  ·have g2:a/2^i%2=b/2^i%2:=by
    have: ¬((a/2^i%2:Nat):Int)≠((b/2^i%2:Nat):Int):=fun hh=>by rw[bne_iff_ne.2 hh] at g2;cases g2
    omega
   exact fun w3 h3=>⟨⟨i,by omega,by have h1:=wJ a i;have h2:=wJ b i;omega,rfl,h3⟩,by show((i:Int) -1+1).toNat<((i:Int)+1).toNat;omega⟩
 ·have hz:j=0:=by have:=of_decide_eq_false g1;omega
  subst hz;rw[Nat.pow_zero,Nat.div_one,Nat.div_one] at heq;rw[decide_eq_false (by omega)] at h;exact T.dp h
end
section
variable {W:World} {L R:LH} {K:VK} {X:WK}
def At{a b:Nat}(ha:a<aO)(hb:b<aO)(h:T W L (K (.agg ⟨nm (if a<b then a else b)⟩))):T W L (ff (nm a) (nm b) K):=by
 unfold ff
 repeat' first|apply ww|apply wm;intro _|apply wb
 refine uk ha hb ?_;by_cases g1:a<b
 ·rw[if_pos g1] at h;rw[decide_eq_true g1]
  repeat' first|apply ww|apply wm;intro _|apply wb
  exact T.dp h
 ·rw[if_neg g1] at h;rw[decide_eq_false g1]
  repeat' first|apply ww|apply wm;intro _|apply wb
  exact T.dp h
end
section
variable {W:World} {L R:LH} {K:VK} {X:WK} {t:Move}
def BX(ht:0≤t.flags∧t.flags<1000000)(h:T W L (K (.bool (decide (gW t.flags))))):T W L (aE (ai t) K):=by
 have he:gW t.flags↔ ¬(has t.flags 2∧has t.flags 4∨has t.flags 2∧has t.flags 8∨has t.flags 4∧has t.flags 8)∧¬((has t.flags 4∨has t.flags 8)∧16≤t.flags)∧(t.flags<64∨has t.flags 2):=Iff.rfl;obtain⟨b2,h2⟩:∃b,b=decide (has t.flags 2):=⟨_,rfl⟩;obtain⟨b4,h4⟩:∃b,b=decide (has t.flags 4):=⟨_,rfl⟩;obtain⟨b8,h8⟩:∃b,b=decide (has t.flags 8):=⟨_,rfl⟩;have H2:∀{L':LH} {K':VK},T W L' (K' (.bool b2))→T W L' (aL (ai t) 2 K'):=fun hh=>jo ht (by decide) (by rw[←h2];exact hh);have H4:∀{L':LH} {K':VK},T W L' (K' (.bool b4))→T W L' (aL (ai t) 4 K'):=fun hh=>jo ht (by decide) (by rw[←h4];exact hh);have H8:∀{L':LH} {K':VK},T W L' (K' (.bool b8))→T W L' (aL (ai t) 8 K'):=fun hh=>jo ht (by decide) (by rw[←h8];exact hh);have hE:∀{L':LH} {K':VK},T W L' (K' (.bool (b4||b8)))→T W L' (cM (ai t) K'):=fun{L'} {K'} hh=>rF ht (by
  have e:decide (iR t.flags)=(b4||b8):=by rw[h4,h8];exact Bool.decide_or (has t.flags 4) (has t.flags 8)
  rw[e];exact hh)
 unfold aE aE.j3 aE.j4 aE.j1 aE.j2;have h2:=h2.symm;have h4:=h4.symm;have h8:=h8.symm;cases b2<;>cases b4<;>cases b8<;>simp only[decide_eq_true_eq,decide_eq_false_iff_not] at h2 h4 h8<;>simp only[Bool.or_true,Bool.or_false,Bool.true_or,Bool.false_or] at hE
 all_goals
  repeat' first|apply ww|apply wm;intro _|apply wb|with_reducible first|refine H2 ?_|refine H4 ?_|refine H8 ?_|refine hE ?_|refine az (fun h1=>?_) (fun h1=>?_)|fail
 all_goals
  refine T.fin (T.dp h) ?_
  congr 1
  clear H2 H4 H8 hE h
  (try simp only[decide_eq_true_eq,decide_eq_false_iff_not] at *)
  rw[adX,decide_eq_true_eq,he];simp only[h2,h4,h8,Bool.true_eq_false,ad0,eq_self,true_and,and_true,false_and,and_false,or_true,or_false,true_or,false_or,not_true_eq_false,not_false_eq_true,true_iff,false_iff]
  try omega
end
def LU(d:Nat):LV:=[.i (d:Int)]
def zB(d:Nat):(LU d).length=1:=rfl
def rl:List Nat→Nat
 |[]=>0
 |d::l=>d* 10^l.length+rl l
def qQ(l:List Nat):List UInt8:=l.map fun d=>UInt8.ofNat (48+d)
def zz:∀(l:List Nat),(∀d∈l,d<10)→rl l<10^l.length
 |[],_=>by show 0<1;decide
 |d::l,h=>by
  have ih:=zz l (fun x hx=>h x (aeE _ hx));have hd:=h d List.mem_cons_self;have:d* 10^l.length≤9* 10^l.length:=aem _ (by omega);simp only[rl,adW,Nat.pow_succ];omega
def Gg:∀(l m:List Nat),(∀d∈l,d<10)→(∀d∈m,d<10)→l.length=m.length→rl l=rl m→l=m
 |[],m,_,_,hl,_=>by cases m with|nil=>rfl|cons a b=>simp at hl
 |d::l,[],_,_,hl,_=>by simp at hl
 |d::l,e::m,h1,h2,hl,hv=>by
  have OX:l.length=m.length:=by simpa using hl
  have a1:=zz l (fun x hx=>h1 x (aeE _ hx));have a2:=zz m (fun x hx=>h2 x (aeE _ hx));simp only[rl,OX] at hv a1;have hp:0<10^m.length:=Nat.pow_pos (by decide);have hde:d=e:=by
   have e1:(d* 10^m.length+rl l)/10^m.length=d:=by rw[ae',Nat.mul_add_div hp,Nat.div_eq_of_lt a1,aev]
   have e2:(e* 10^m.length+rl m)/10^m.length=e:=by rw[ae',Nat.mul_add_div hp,Nat.div_eq_of_lt a2,aev]
   rw[←e1,hv,e2]
  subst hde;rw[Gg l m (fun x hx=>h1 x (aeE _ hx)) (fun x hx=>h2 x (aeE _ hx)) OX (by omega)]
structure Ce(a j:Nat)(l:List Nat):Prop where
 val:rl l=a/2^j
 small:∀d∈l,d<10
 norm:l.length=1∨10^(l.length-1)≤rl l
 len:1≤l.length∧l.length≤129-j
def Ce.step{a j c:Nat}{l tl:List Nat}(h:Ce a (j+1) l)(hj:j<128)(hl:tl.length=l.length)(ht:∀d∈tl,d<10)(hc:c≤1)(he:2* rl l+a/2^j%2=c* 10^l.length+rl tl):
 (c=0→Ce a j tl)∧(0<c→Ce a j (c::tl)):=by
 have hv:=h.val;have h2:=wJ a j;have hle:=h.len;have e:2* rl l+a/2^j%2=a/2^j:=by rw[hv,←h2];omega
 refine⟨fun h0=>?_,fun h0=>?_⟩
 ·subst h0;rw[Nat.zero_mul,adE] at he;refine⟨by rw[←he,e],ht,?_,by rw[hl];omega⟩;rw[hl];rcases h.norm with hn|hn
  ·exact .inl hn
  ·exact .inr (by omega)
 ·have h1:c=1:=by omega
  subst h1;refine⟨by simp only[rl,hl];omega,fun d hd=>?_,.inr ?_,by simp only[adW,hl];omega⟩
  ·rcases aeS.1 hd with hd|hd
   ·omega
   ·exact ht d hd
  ·simp only[rl,adW,Nat.add_sub_cancel];omega
def Ce.first{a:Nat}(ha:a<aO):Ce a 128 [0]:=⟨by rw[Nat.div_eq_of_lt (show a<2^128 from ha)];rfl,fun d hd=>by simp at hd;omega,.inl rfl,by simp⟩
def K8:List Nat:=[3,4,0,2,8,2,3,6,6,9,2,0,9,3,8,4,6,3,4,6,3,3,7,4,6,0,7,4,3,1,7,6,8,2,1,1,4,5,5]
def C9:∀(l m:List Nat),(∀d∈l,d<10)→(∀d∈m,d<10)→qQ l=qQ m→l=m
 |[],[],_,_,_=>rfl
 |[],e::m,_,_,h=>by simp[qQ] at h
 |d::l,[],_,_,h=>by simp[qQ] at h
 |d::l,e::m,h1,h2,h=>by
  simp only[qQ,aeb,List.cons.injEq] at h;obtain⟨hd,ht⟩:=h;have b1:=h1 d List.mem_cons_self;have b2:=h2 e List.mem_cons_self;have:d=e:=by
   have:=congrArg UInt8.toNat hd;simp only[UInt8.toNat_ofNat'] at this;omega
  subst this;rw[C9 l m (fun x hx=>h1 x (aeE _ hx)) (fun x hx=>h2 x (aeE _ hx)) ht]
def Ce.last{a:Nat}{l:List Nat}(h:Ce a 0 l):(qQ l=qQ K8↔a=aO-1):=by
 have hv:rl l=a:=by have:=h.val;rwa[Nat.pow_zero,Nat.div_one] at this
 have hmx:∀d∈K8,d<10:=by decide
 have py:rl K8=aO-1:=by decide+kernel
 constructor
 ·intro he;have:=C9 l K8 h.small hmx he;rw[←hv,this,py]
 ·intro he;have hlen:l.length=39:=by
   have h1:=zz l h.small;rw[hv,he] at h1;rcases h.norm with hn|hn
   ·rw[hn] at h1;exact absurd h1 (by decide)
   ·rw[hv,he] at hn;have a1:l.length-1<39:=Nat.lt_of_not_le fun hh=>absurd (Nat.le_trans (aer (by decide) hh) hn) (by decide+kernel);have a2:38<l.length:=Nat.lt_of_not_le fun hh=>absurd (Nat.lt_of_lt_of_le h1 (aer (by decide) hh)) (by decide+kernel);have:=h.len;omega
  rw[Gg l K8 h.small hmx hlen (by rw[hv,he,py])]
section
variable {W:World} {L R:LH} {K:VK} {X:WK}
def ID{r d:Nat}(h:T W (own (some ⟨r,0,none⟩) 1 1 1 ([d].flatMap LU)::L) X):T W (Sep.pt r [.i (d:Int)]::L) X:=fun w hs=>
 h w (St.xn (k:=0) (L:=Sep.pt r [.i (d:Int)]::L) (xs:=[d].flatMap LU) (sp:=[]) (n:=1) (c:=1) (e:=1) (by simp) (by simp[LU]) (adG _) (by simp) hs)
def Kk{a:Nat}(ha:a<aO)(h:∀s:BA,pq s (⟨#[51,52,48,50,56,50,51,54,54,57,50,48,57,51,56,52,54,51,52,54,51,51,55,52,54,48,55,52,51,49,55,54,56,50,49,49,52,53,53]⟩:BA)=decide (a=aO-1)→T W L (K (.string s))):T W L (eG (nm a) K):=by
 unfold eG
 repeat' first|apply ww|apply wm;intro _|apply wb
 rename_i r1 r2;refine ID (d:=0) ?_;intro w ku;refine⟨fun vv w=>∃(j:Nat)(l:List Nat)(b:OA)(c:Nat),j≤128∧Ce a j l∧vv=[.p (some (ad r1 0)),.string .empty,.l b l.length c,.i ((j:Int) -1)]∧St W w (own b l.length c 1 (l.flatMap LU)::Sep.pt r1 (nm a)::L),
  fun vs _=>match vs with|[_,_,_,.int _ d]=>(d+1).toNat|_=>0,⟨128,[0],_,_,adG _,Ce.first ha,rfl,ku⟩,?_⟩
 rintro a1 s1 MD Vm PB n1 w2 ⟨j,l,b,c,hj,hd,e,gN⟩;cases e
 refine T.at ?_ gN;refine az (fun g1=>?_) (fun g1=>?_)
 ·have g1:=of_decide_eq_true g1;obtain⟨i,rfl⟩:∃i:Nat,j=i+1:=⟨j-1,by omega⟩;have e1:(((i+1:Nat):Int) -1)=(i:Int):=by omega
  have e2:adx.wrap ((i:Int) -1)=(i:Int) -1:=ah (by omega);have hlen:=hd.len;rw[e1]
  repeat' first|apply ww|apply wm;intro _|apply wb
  refine qi ha (by omega) ?_
  repeat' first|apply ww|apply wm;intro _|apply wb
  rw[ah (show-9223372036854775808≤(l.length:Int) -1∧(l.length:Int) -1≤9223372036854775807 by omega)];have aaF:a/2^i%2≤1:=by omega
  intro w3 qL;refine⟨fun vv w=>∃(k cc:Nat)(tl:List Nat),k≤l.length∧tl.length=l.length-k∧(∀d∈tl,d<10)∧cc≤1∧2* rl (l.drop k)+a/2^i%2=cc* 10^(l.length-k)+rl tl∧
   vv=[.p (some (ad r1 0)),.string .empty,.l MD l.length PB,.i (i:Int),.i (cc:Int),.i ((k:Int) -1)]∧St W w (own MD l.length PB 1 ((l.take k++tl).flatMap LU)::Sep.pt r1 (nm a)::L),
   fun vs _=>match vs with|[_,_,_,_,_,.int _ d]=>(d+1).toNat|_=>0,⟨l.length,a/2^i%2,[],adG _,by simp,(fun d hd=>by cases hd),aaF,by rw[List.drop_length,aeY];simp[rl],rfl,by rw[adN,adV];exact qL⟩,?_⟩
  rintro a2 s2 uF qg uE n3 n4 n5 w4 ⟨k,cc,tl,hk,y4,htd,Nt,y3,e,th⟩;cases e
  refine T.at ?_ th;refine az (fun g2=>?_) (fun g2=>?_)
  ·have g2:=of_decide_eq_true g2;obtain⟨q,rfl⟩:∃q:Nat,k=q+1:=⟨k-1,by omega⟩;have e3:(((q+1:Nat):Int) -1)=(q:Int):=by omega
   rw[e3];have gx:=adA (show q<l.length by omega);have hdx:=hd.small _ (adZ (show q<l.length by omega));have FZ:l.drop q=l[q]::l.drop (q+1):=aef (by omega);have sY:l.take (q+1)=l.take q++[l[q]]:=by rw[adT,gx];rfl
   generalize l[q]=d at gx hdx FZ sY;have hlq:(l.take q).length=q:=by rw[adF,ae2 (by omega)]
   have gy:(l.take (q+1)++tl)[q]?=some d:=by
    rw[sY,adI,aea (by omega),hlq,aeY];rfl
   refine bV (b:=MD) ⟨by omega,by omega⟩ fun rb hb=>?_;rw[adB];subst hb;refine u4 (g:=LU) zB gy rfl ?_;refine na ?_;refine c9 (by decide) ?_;refine bV (b:=some ⟨rb,0,none⟩) ⟨by omega,by omega⟩ fun ON hb=>?_;rw[adB];cases hb
   have w1:adx.wrap (2* (d:Int))=2* (d:Int):=ah (by omega);have w2':adx.wrap (2* (d:Int)+(cc:Int))=((2* d+cc:Nat):Int):=by rw[ah (by omega)];omega
   have w3':((2* d+cc:Nat):Int).tmod 10=(((2* d+cc)%10:Nat):Int):=by rw[aei (by omega)];omega
   have w4':adx.wrap (((2* d+cc:Nat):Int).tdiv 10)=(((2* d+cc)/10:Nat):Int):=by rw[Int.tdiv_eq_ediv_of_nonneg (by omega),ah (by omega)];omega
   have w5':adx.wrap ((q:Int) -1)=(q:Int) -1:=ah (by omega);rw[w1,w2',w3',w4',w5'];refine zX (o:=q) (j:=0) (x:=d) (y:=(2* d+cc)%10) (g:=LU) zB gy rfl (by decide) rfl ?_;refine c9 (by decide) ?_;have KF:(l.take (q+1)++tl).set q ((2* d+cc)%10)=l.take q++((2* d+cc)%10::tl):=by
    rw[sY,adI,List.set_append_right _ _ (by omega),hlq,aeY];rfl
   rw[KF];have wC:(l.drop (q+1)).length=l.length-(q+1):=adM;intro w5 Jo;refine⟨⟨q,(2* d+cc)/10,(2* d+cc)%10::tl,by omega,by simp only[adW];omega,fun x hx=>?_,by omega,?_,rfl,Jo⟩,by show((q:Int) -1+1).toNat<((q:Int)+1).toNat;omega⟩
   ·rcases aeS.1 hx with hx|hx
    ·omega
    ·exact htd x hx
   ·rw[FZ];simp only[rl];rw[y4,wC,show l.length-q=(l.length-(q+1))+1 by omega,Nat.pow_succ];generalize 10^(l.length-(q+1))=P at y3⊢;have:2* (d* P)+cc* P=(2* d+cc)/10* (P* 10)+(2* d+cc)%10* P:=by
     have hh:2* d+cc=(2* d+cc)/10* 10+(2* d+cc)%10:=by omega
     calc 2* (d* P)+cc* P=(2* d+cc)* P:=by rw[aeU,Nat.mul_assoc]
      _=((2* d+cc)/10* 10+(2* d+cc)%10)* P:=by rw[←hh]
      _=_:=by rw[aeU,Nat.mul_assoc,ae' 10 P]
    omega
  ·have hz:k=0:=by have:=of_decide_eq_false g2;omega
   subst hz;rw[aeJ,Nat.sub_zero] at y3;rw[Nat.sub_zero] at y4;rw[ae0,aed,e2];obtain⟨s0,s1⟩:=hd.step (by omega) y4 htd Nt y3;refine az (fun g3=>?_) (fun g3=>?_)
   ·have g3:=of_decide_eq_true g3;have g3:0<cc:=by omega
    refine c9 ⟨rfl,trivial⟩ ?_;refine qD fun r3=>?_;refine ID (d:=cc) ?_;rw[←y4];refine om (l0:=[cc]) (l1:=tl) zB rfl (by omega) (fun x v hv=>by simp[LU] at hv;subst hv;rfl) fun b2 c2=>?_;have hs:=s1 g3;refine T.sub (M:=own b2 (1+tl.length) c2 1 (([cc]++tl).flatMap LU)::Sep.pt r1 (nm a)::L) ?_ (by repeat (first|exact adP.refl _|apply adP.cons_cons|apply adP.cons));rw[show 1+tl.length=(cc::tl).length by simp only[adW];omega];intro w6 TS;exact⟨⟨i,cc::tl,b2,c2,by omega,hs,rfl,TS⟩,by show((i:Int) -1+1).toNat<((i:Int)+1).toNat;omega⟩
   ·have g3:=of_decide_eq_false g3;have hs:=s0 (by omega);rw[←y4];intro w6 TS;exact⟨⟨i,tl,_,_,by omega,hs,rfl,TS⟩,by show((i:Int) -1+1).toNat<((i:Int)+1).toNat;omega⟩
 ·have hz:j=0:=by have:=of_decide_eq_false g1;omega
  subst hz;have hlen:=hd.len;intro w3 qL;refine⟨fun vv w=>∃k:Nat,k≤l.length∧vv=[.string .empty,.string (bs (qQ (l.take k))),.l MD l.length PB,.i (l.length:Int),.i (k:Int)]∧St W w (own MD l.length PB 1 (l.flatMap LU)::Sep.pt r1 (nm a)::L),
   fun vs _=>match vs with|[_,_,_,_,.int _ d]=>l.length-d.toNat|_=>0,⟨0,adK _,rfl,qL⟩,?_⟩
  rintro s3 s4 yV yg yU n7 n8 w9 ⟨k,hk,e,hs9⟩;cases e
  refine T.at ?_ hs9;refine az (fun g2=>?_) (fun g2=>?_)
  ·have a8:k<l.length:=by have:=of_decide_eq_true g2;omega
   have gx:=adA a8;have hdx:=hd.small _ (adZ a8);have sY:l.take (k+1)=l.take k++[l[k]]:=by rw[adT,gx];rfl
   generalize l[k]=d at gx hdx sY;refine bV (b:=MD) ⟨by omega,by omega⟩ fun rb hb=>?_;rw[adB];subst hb;refine u4 (g:=LU) zB gx rfl ?_;refine na ?_;refine c9 ⟨rfl,trivial⟩ ?_;refine qD fun r4=>?_;have e4:Value.int .u8 (IntKind.u8.wrap (adx.wrap (48+(d:Int))))=ry (UInt8.ofNat (48+d)):=by
    have:=ue (n:=((48+d:Nat):Int)) (by omega);rw[adB] at this;rw[this,ah (by omega)]
    congr 1
    have:((48+d:Nat):Int)=48+(d:Int):=by omega
    rw[this];unfold IntKind.wrap;simp[IntKind.signed,IntKind.bits];omega
   rw[e4];refine RO (l:=[UInt8.ofNat (48+d)]) ?_;have e5:bs (qQ (l.take k))++bs [UInt8.ofNat (48+d)]=bs (qQ (l.take (k+1))):=by rw[Li,sY];unfold qQ;rw[ad8];rfl
   have e6:adx.wrap ((k:Int)+1)=((k+1:Nat):Int):=by rw[ah (by omega)];omega
   refine c9 ?_ ?_
   ·rw[bF,bF];unfold qQ;rw[ad1,adF,aeZ];omega
   rw[e5,e6];refine T.drop fun w5 Jo=>⟨⟨k+1,a8,rfl,Jo⟩,by show l.length-((k+1:Nat):Int).toNat<l.length-(k:Int).toNat;omega⟩
  ·have iM:k=l.length:=by have:=of_decide_eq_false g2;omega
   subst iM;rw[adN];refine T.drop (T.drop (h _ ?_));rw[pU,decide_eq_decide,←hd.last];exact xN (a:=qQ l) (b:=qQ K8)
end
section
variable {W:World} {L R:LH} {K:VK} {X Y:WK} {a:aS} {t:Move} {r1 r2:Nat}
def Me{n:Nat}(hn:n<aO)(h:T W L (br (decide (n=aO-1)) X Y)):T W L (eG (nm n) (xS fun s1=>br (pq s1 (⟨#[51,52,48,50,56,50,51,54,54,57,50,48,57,51,56,52,54,51,52,54,51,51,55,52,54,48,55,52,51,49,55,54,56,50,49,49,52,53,53]⟩:BA)) X Y)):=
 Kk hn fun s hs=>Pr (by rw[hs];exact h)
def NY(a:aS):Int:=if a.dp≠0∨a.dq≠0∨a.cp≠0∨a.cq≠0∨a.af≠0 then 7 else if a.aJ≤0∨4294967296≤a.aJ then 8 else if a.code≤0∨65536≤a.code then 9 else 0
def I4{b:Bool}(h:T W (Sep.pt r2 [.u 0,.u 0]::Sep.pt r1 (ak a)::L) (K (.i (if b=true then 6 else NY a)))):T W (Sep.pt r2 [.u 0,.u 0]::Sep.pt r1 (ak a)::L) (ay.j2 K r1 r2 b):=by
 unfold ay.j2 ay.j5 ay.j6 ay.j3 ay.j4;cases b with
 |true=>
  repeat' first|apply ww|apply wm;intro _|apply wb
  exact h
 |false=>
  rw[if_neg (by decide)] at h
  repeat' first|apply ww|apply wm;intro _|apply wb|with_reducible refine az (fun h1=>?_) (fun h1=>?_)|fail
  all_goals try simp only[bz] at *
  all_goals
   refine T.fin (T.dp h) ?_
   congr 1
   unfold NY
   repeat' split
  all_goals omega
def Ho(ha:vy a)(h:T W L (K (.i (qE a)))):T W L (ay (ak a) K):=by
 unfold ay ay.j1;have e:qE a=if a.flags<0∨7<a.flags then 3 else if a.id=0 then 4 else if a.id=aO-1 then 5 else if has a.flags 2∧has a.flags 4 then 6 else NY a:=rfl
 rw[e] at h;by_cases hr:0≤a.flags∧a.flags≤7
 ·rw[if_neg (by omega)] at h;have hf:0≤a.flags∧a.flags<1000000:=by omega
  have e1:decide (a.flags<0)=false:=decide_eq_false (by omega);have e2:decide (a.flags>7)=false:=decide_eq_false (by omega)
  repeat' first|apply ww|apply wm;intro _|apply wb
  rw[e1]
  repeat' first|apply ww|apply wm;intro _|apply wb
  rw[e2]
  repeat' first|apply ww|apply wm;intro _|apply wb
  refine az (fun h1=>?_) (fun h1=>?_)
  ·have h1:=of_decide_eq_true h1;rw[if_pos h1] at h;exact T.dp h
  have h1:=of_decide_eq_false h1;rw[if_neg h1] at h
  repeat' first|apply ww|apply wm;intro _|apply wb
  refine Me ha.id ?_;refine az (fun h1=>?_) (fun h1=>?_)
  ·have h1:=of_decide_eq_true h1;rw[if_pos h1] at h;exact T.dp h
  have h1:=of_decide_eq_false h1;rw[if_neg h1] at h
  repeat' first|apply ww|apply wm;intro _|apply wb|with_reducible refine Fi hf (by decide) ?_|fail
  refine az (fun h1=>?_) (fun h1=>?_)
  ·have h1:=of_decide_eq_true h1
   repeat' first|apply ww|apply wm;intro _|apply wb|with_reducible refine Fi hf (by decide) ?_|fail
   refine I4 ?_;refine T.fin (T.dp h) ?_
   congr 1
   by_cases h4:has a.flags 4
   ·rw[if_pos (decide_eq_true h4),if_pos ⟨h1,h4⟩]
   ·rw[if_neg (fun hh=>h4 (of_decide_eq_true hh)),if_neg (fun hh=>h4 hh.2)]
  ·have h1:=of_decide_eq_false h1;refine I4 ?_;rw[if_neg (fun hh=>h1 hh.1)] at h;exact T.dp h
 ·rw[if_pos (by omega)] at h
  repeat' first|apply ww|apply wm;intro _|apply wb
  refine az (fun h1=>?_) (fun h1=>?_)
  ·repeat' first|apply ww|apply wm;intro _|apply wb
   exact T.dp h
  ·have h1:=of_decide_eq_false h1;have e2:decide (a.flags>7)=true:=decide_eq_true (by omega)
   repeat' first|apply ww|apply wm;intro _|apply wb
   rw[e2]
   repeat' first|apply ww|apply wm;intro _|apply wb
   exact T.dp h
def zl{n:Int}(h:T W (Sep.pt r2 [.u 0,.u 0]::Sep.pt r1 (ai t)::L) (K (.i (if t.aJ<n∨4294967296≤t.aJ then 8 else if t.code<n∨65536≤t.code then 9 else 0)))):T W (Sep.pt r2 [.u 0,.u 0]::Sep.pt r1 (ai t)::L) (aq.j4 K r1 n):=by
 unfold aq.j4 aq.j5
 repeat' first|apply ww|apply wm;intro _|apply wb|with_reducible refine az (fun h1=>?_) (fun h1=>?_)|fail
 all_goals try simp only[bz] at *
 all_goals
  refine T.fin (T.dp h) ?_
  congr 1
  repeat' split
 all_goals omega
def zm{b:Bool}(hf:0≤t.flags∧t.flags<1000000)(h:T W (Sep.pt r2 [.u 0,.u 0]::Sep.pt r1 (ai t)::L) (K (.i (if b=true then 17 else if iR t.flags then Lg t else Lf t)))):T W (Sep.pt r2 [.u 0,.u 0]::Sep.pt r1 (ai t)::L) (aq.j3 K r1 r2 b):=by
 unfold aq.j3;cases b with
 |true=>
  repeat' first|apply ww|apply wm;intro _|apply wb
  exact h
 |false=>
  rw[if_neg (by decide)] at h
  repeat' first|apply ww|apply wm;intro _|apply wb|with_reducible refine rF hf ?_|fail
  refine az (fun h1=>?_) (fun h1=>?_)
  ·have h1:=of_decide_eq_true h1;rw[if_pos h1] at h
   repeat' first|apply ww|apply wm;intro _|apply wb
   unfold Lg at h;refine az (fun h1=>?_) (fun h1=>?_)
   ·have h1:=of_decide_eq_true h1;rw[if_pos h1] at h;exact h
   ·have h1:=of_decide_eq_false h1;rw[if_neg h1] at h;exact zl h
  ·have h1:=of_decide_eq_false h1;rw[if_neg h1] at h;unfold Lf at h
   repeat' first|apply ww|apply wm;intro _|apply wb
   refine az (fun h1=>?_) (fun h1=>?_)
   ·rw[if_pos (of_decide_eq_true h1)] at h;exact h
   rw[if_neg (of_decide_eq_false h1)] at h
   repeat' first|apply ww|apply wm;intro _|apply wb
   refine az (fun h1=>?_) (fun h1=>?_)
   ·rw[if_pos (of_decide_eq_true h1)] at h;exact h
   rw[if_neg (of_decide_eq_false h1)] at h
   repeat' first|apply ww|apply wm;intro _|apply wb
   refine az (fun h1=>?_) (fun h1=>?_)
   ·rw[if_pos (of_decide_eq_true h1)] at h;exact h
   rw[if_neg (of_decide_eq_false h1)] at h
   repeat' first|apply ww|apply wm;intro _|apply wb
   by_cases h5:t.pending=0
   ·rw[if_neg (fun hh=>hh h5)] at h;rw[decide_eq_true h5]
    repeat' first|apply ww|apply wm;intro _|apply wb
    refine az (fun h1=>?_) (fun h1=>?_)
    ·have h1:=of_decide_eq_true h1
     repeat' first|apply ww|apply wm;intro _|apply wb|with_reducible refine jo hf (by decide) ?_|fail
     by_cases h6:has t.flags 16
     ·rw[decide_eq_true h6];rw[if_neg (fun hh=>hh.2.1 h6)] at h
      repeat' first|apply ww|apply wm;intro _|apply wb
      exact zl h
     ·rw[decide_eq_false h6]
      repeat' first|apply ww|apply wm;intro _|apply wb|with_reducible refine jo hf (by decide) ?_|fail
      by_cases h7:has t.flags 32
      ·rw[decide_eq_true h7];rw[if_neg (fun hh=>hh.2.2 h7)] at h
       repeat' first|apply ww|apply wm;intro _|apply wb
       exact zl h
      ·rw[decide_eq_false h7];rw[if_pos ⟨h1,h6,h7⟩] at h
       repeat' first|apply ww|apply wm;intro _|apply wb
       exact h
    ·have h1:=of_decide_eq_false h1;rw[if_neg (fun hh=>h1 hh.1)] at h;exact zl h
   ·rw[if_pos h5] at h;rw[decide_eq_false h5]
    repeat' first|apply ww|apply wm;intro _|apply wb
    exact h
def ve(ht:uY t)(h:T W L (K (.i (lE t)))):T W L (aq (ai t) K):=by
 unfold aq aq.j1;have e:lE t=if t.flags<0∨255<t.flags then 3 else if t.id=0 then 4 else if t.id=aO-1 then 5 else if ¬gW t.flags then 6
  else if t.af≠0∨t.born≠0 then 7 else if t.timeout<0∨1073741824<t.timeout∨0<t.timeout∧¬has t.flags 2 then 17 else if iR t.flags then Lg t else Lf t:=rfl
 rw[e] at h;by_cases hr:0≤t.flags∧t.flags≤255
 ·rw[if_neg (by omega)] at h;have hf:0≤t.flags∧t.flags<1000000:=by omega
  have e1:decide (t.flags<0)=false:=decide_eq_false (by omega);have e2:decide (t.flags>255)=false:=decide_eq_false (by omega)
  repeat' first|apply ww|apply wm;intro _|apply wb
  rw[e1]
  repeat' first|apply ww|apply wm;intro _|apply wb
  rw[e2]
  repeat' first|apply ww|apply wm;intro _|apply wb
  refine az (fun h1=>?_) (fun h1=>?_)
  ·have h1:=of_decide_eq_true h1;rw[if_pos h1] at h;exact T.dp h
  have h1:=of_decide_eq_false h1;rw[if_neg h1] at h
  repeat' first|apply ww|apply wm;intro _|apply wb
  refine Me ht.id ?_;refine az (fun h1=>?_) (fun h1=>?_)
  ·have h1:=of_decide_eq_true h1;rw[if_pos h1] at h;exact T.dp h
  have h1:=of_decide_eq_false h1;rw[if_neg h1] at h
  repeat' first|apply ww|apply wm;intro _|apply wb|with_reducible refine BX hf ?_|fail
  by_cases h2:gW t.flags
  ·rw[if_neg (fun hh=>hh h2)] at h;rw[decide_eq_true h2]
   repeat' first|apply ww|apply wm;intro _|apply wb
   unfold aq.j2 aq.j6;by_cases h3:t.af≠0∨t.born≠0
   ·rw[if_pos h3] at h;refine az (fun h1=>?_) (fun h1=>?_)
    ·repeat' first|apply ww|apply wm;intro _|apply wb
     exact T.dp h
    ·have h1:t.af=0:=by simpa using h1
     have e3:(t.born !=0)=true:=by rw[bne_iff_ne];omega
     repeat' first|apply ww|apply wm;intro _|apply wb
     rw[e3]
     repeat' first|apply ww|apply wm;intro _|apply wb
     exact T.dp h
   ·rw[if_neg h3] at h;have e3:(t.af !=0)=false:=by rw[bne_eq_false_iff_eq];omega
    have e4:(t.born !=0)=false:=by rw[bne_eq_false_iff_eq];omega
    rw[e3]
    repeat' first|apply ww|apply wm;intro _|apply wb
    rw[e4]
    repeat' first|apply ww|apply wm;intro _|apply wb
    refine az (fun h4=>?_) (fun h4=>?_)
    ·have h4:=of_decide_eq_true h4;rw[if_pos (.inl h4)] at h
     repeat' first|apply ww|apply wm;intro _|apply wb
     refine zm hf ?_;exact T.dp h
    have h4:=of_decide_eq_false h4
    repeat' first|apply ww|apply wm;intro _|apply wb
    refine az (fun h5=>?_) (fun h5=>?_)
    ·have h5:=of_decide_eq_true h5;rw[if_pos (.inr (.inl h5))] at h;refine zm hf ?_;exact T.dp h
    have h5:=of_decide_eq_false h5
    repeat' first|apply ww|apply wm;intro _|apply wb
    refine az (fun h6=>?_) (fun h6=>?_)
    ·have h6:=of_decide_eq_true h6
     repeat' first|apply ww|apply wm;intro _|apply wb|with_reducible refine jo hf (by decide) ?_|fail
     refine zm hf ?_;by_cases h7:has t.flags 2
     ·rw[decide_eq_true h7];rw[if_neg (by rintro(hh|hh|hh);exact h4 hh;exact h5 hh;exact hh.2 h7)] at h;exact T.dp h
     ·rw[decide_eq_false h7];rw[if_pos (.inr (.inr ⟨h6,h7⟩))] at h;exact T.dp h
    ·have h6:=of_decide_eq_false h6;refine zm hf ?_;rw[if_neg (by rintro(hh|hh|hh);exact h4 hh;exact h5 hh;exact h6 hh.1)] at h;exact T.dp h
  ·rw[if_pos h2] at h;rw[decide_eq_false h2]
   repeat' first|apply ww|apply wm;intro _|apply wb
   exact T.dp h
 ·rw[if_pos (by omega)] at h
  repeat' first|apply ww|apply wm;intro _|apply wb
  refine az (fun h1=>?_) (fun h1=>?_)
  ·repeat' first|apply ww|apply wm;intro _|apply wb
   exact T.dp h
  ·have h1:=of_decide_eq_false h1;have e2:decide (t.flags>255)=true:=decide_eq_true (by omega)
   repeat' first|apply ww|apply wm;intro _|apply wb
   rw[e2]
   repeat' first|apply ww|apply wm;intro _|apply wb
   exact T.dp h
end
def IQ{j:Nat}(hj:j<64):shl .u64 1 (j:Int)=((2^j:Nat):Int):=by
 unfold shl;have h1:2^j<2^64:=Nat.pow_lt_pow_right (by decide) hj;have h2:(2:Nat)^64=18446744073709551616:=by decide
 have h3:((2:Int)^j)=((2^j:Nat):Int):=by push_cast;rfl
 rw[adB,show min j IntKind.u64.bits=j from ae2 (Nat.le_of_lt hj),Go.Up.oJ,Int.one_mul,h3];generalize 2^j=P at h1;omega
def yo(a i:Nat):a%2^(i+1)=a%2^i+a/2^i%2* 2^i:=by
 rw[Nat.pow_succ,Nat.mod_mul,ae' (2^i)]
section
variable {W:World} {L R:LH} {K:VK} {X Y:WK} {a:aS} {t:Move} {r1 r2:Nat}
def MM{n j:Nat}(hn:n<2^j)(hj:j<128)(h:T W L (K (.agg ⟨nm (n+2^j)⟩))):T W L (im (nm n) (j:Int) K):=by
 unfold im;unfold nm
 repeat' first|apply ww|apply wm;intro _|apply wb
 refine az (fun g1=>?_) (fun g1=>?_)
 ·have g1:=of_decide_eq_true g1;obtain⟨i,rfl⟩:∃i:Nat,j=64+i:=⟨j-64,by omega⟩;have e1:adx.wrap (((64+i:Nat):Int) -64)=(i:Int):=by rw[ah (by omega)];omega
  have e2:IntKind.u64.wrap (i:Int)=(i:Int):=by rw[Go.Up.oJ];omega
  rw[e1,e2,IQ (by omega)]
  repeat' first|apply ww|apply wm;intro _|apply wb
  refine c9 (by omega) ?_
  repeat' first|apply ww|apply wm;intro _|apply wb
  have hp:2^(64+i)=18446744073709551616* 2^i:=by rw[Nat.pow_add]
  have hq:2^i≤2^63:=aer (by decide) (by omega);have Qr:(2:Nat)^63=9223372036854775808:=by decide
  have h1:n/18446744073709551616<2^i:=Nat.div_lt_of_lt_mul (by rw[←hp];exact hn);have e3:IntKind.u64.wrap (((n/18446744073709551616:Nat):Int)+((2^i:Nat):Int))=(((n+2^(64+i))/18446744073709551616:Nat):Int):=by
   rw[Go.Up.oJ,hp,Nat.add_mul_div_left _ _ (by decide)];omega
  have e4:(n+2^(64+i))%18446744073709551616=n%18446744073709551616:=by rw[hp,Nat.add_mul_mod_self_left]
  unfold nm at h;rw[e4] at h;rw[e3];exact T.dp h
 ·have g1:=of_decide_eq_false g1;have FX:j<64:=by omega
  have e2:IntKind.u64.wrap (j:Int)=(j:Int):=by rw[Go.Up.oJ];omega
  rw[e2,IQ FX]
  repeat' first|apply ww|apply wm;intro _|apply wb
  refine c9 (by omega) ?_
  repeat' first|apply ww|apply wm;intro _|apply wb
  have hq:2^j≤2^63:=aer (by decide) (by omega);have Qr:(2:Nat)^63=9223372036854775808:=by decide
  have e3:IntKind.u64.wrap (((n%18446744073709551616:Nat):Int)+((2^j:Nat):Int))=(((n+2^j)%18446744073709551616:Nat):Int):=by
   rw[Go.Up.oJ];omega
  have e4:(n+2^j)/18446744073709551616=n/18446744073709551616:=by omega
  unfold nm at h;rw[e4] at h;rw[e3];exact T.dp h
def Mv{a b i c out:Nat}(hv:out+b%2^i=a%2^i+c* 2^i)(c2 n2:Nat)(hn:(n2:Int)=((a/2^i%2:Nat):Int) -((b/2^i%2:Nat):Int) -(c:Int)+2* (c2:Int)):
 out+n2* 2^i+b%2^(i+1)=a%2^(i+1)+c2* 2^(i+1):=by
 rw[yo,yo,Nat.pow_succ];have hh:n2+b/2^i%2+c=a/2^i%2+2* c2:=by omega
 have:=congrArg (·* 2^i) hh;simp only[aeU] at this;rw[show c2* (2^i* 2)=2* c2* 2^i by rw[ae' (2^i) 2,←Nat.mul_assoc,ae' c2 2]];omega
def Fj{a b:Nat}(ha:a<aO)(hb:b<aO)(h:T W L (K (.tuple ⟨[.agg ⟨nm (a-b)⟩,.bool (decide (b≤a))]⟩))):T W L (cm (nm a) (nm b) K):=by
 unfold cm cm.j1
 repeat' first|apply ww|apply wm;intro _|apply wb
 refine uk ha hb ?_
 repeat' first|apply ww|apply wm;intro _|apply wb
 by_cases a8:a<b
 ·rw[show a-b=0 by omega,decide_eq_false (by omega)] at h;rw[decide_eq_true a8]
  repeat' first|apply ww|apply wm;intro _|apply wb
  exact T.dp h
 ·rw[decide_eq_true (by omega)] at h;rw[decide_eq_false a8]
  repeat' first|apply ww|apply wm;intro _|apply wb
  rename_i r1 r2 r3 r4;intro w ku;refine⟨fun vv w=>∃i c out:Nat,i≤128∧c≤1∧out<2^i∧out+b%2^i=a%2^i+c* 2^i∧vv=[.p (some (ad r1 0)),.p (some (ad r2 0)),.p (some (ad r3 0)),.bool false,.p (some (ad r4 0)),.i (c:Int),.i (i:Int)]∧
   St W w (Sep.pt r4 (nm out)::Sep.pt r3 [.u 0,.u 0]::Sep.pt r2 (nm b)::Sep.pt r1 (nm a)::L),
   fun vs _=>match vs with|[_,_,_,_,_,_,.int _ d]=>128-d.toNat|_=>0,⟨0,0,0,by omega,by omega,by decide,by rw[Nat.pow_zero];omega,rfl,ku⟩,?_⟩
  rintro a1 a2 a3 b2 a4 n1 n2 w2 ⟨i,c,out,hi,hc,tg,hv,e,gN⟩;cases e
  refine T.at ?_ gN;refine az (fun g1=>?_) (fun g1=>?_)
  ·have rM:i<128:=by have:=of_decide_eq_true g1;omega
   repeat' first|apply ww|apply wm;intro _|apply wb
   refine qi ha rM ?_
   repeat' first|apply ww|apply wm;intro _|apply wb
   refine qi hb rM ?_
   repeat' first|apply ww|apply wm;intro _|apply wb
   have O9:a/2^i%2≤1:=by omega
   have Uj:b/2^i%2≤1:=by omega
   have e1:adx.wrap (adx.wrap (((a/2^i%2:Nat):Int) -((b/2^i%2:Nat):Int)) -(c:Int))=((a/2^i%2:Nat):Int) -((b/2^i%2:Nat):Int) -(c:Int):=by
    rw[ah (n:=((a/2^i%2:Nat):Int) -((b/2^i%2:Nat):Int)) (by omega),ah (by omega)]
   have e5:adx.wrap ((i:Int)+1)=((i+1:Nat):Int):=by rw[ah (by omega)];omega
   rw[e1,e5];have hp:2^(i+1)=2* 2^i:=by rw[Nat.pow_succ,ae']
   have key:∀(c2 n2:Nat),c2≤1→n2≤1→(n2:Int)=((a/2^i%2:Nat):Int) -((b/2^i%2:Nat):Int) -(c:Int)+2* (c2:Int)→
    T W (Sep.pt r4 (nm out)::Sep.pt r3 [.u 0,.u 0]::Sep.pt r2 (nm b)::Sep.pt r1 (nm a)::L) (cm.j1 K (ad r4 0) (i:Int) (fun vv w=>∃i c out:Nat,i≤128∧c≤1∧out<2^i∧out+b%2^i=a%2^i+c* 2^i∧vv=[.p (some (ad r1 0)),.p (some (ad r2 0)),.p (some (ad r3 0)),.bool false,.p (some (ad r4 0)),.i (c:Int),.i (i:Int)]∧
    St W w (Sep.pt r4 (nm out)::Sep.pt r3 [.u 0,.u 0]::Sep.pt r2 (nm b)::Sep.pt r1 (nm a)::L)) (ad r1 0) (ad r2 0) (ad r3 0) false (fun vs _=>match vs with|[_,_,_,_,_,_,.int _ d]=>128-d.toNat|_=>0) (c:Int) w2 (c2:Int) (n2:Int)):=fun c2 n2 LQ VC hn=>by
    unfold cm.j1;rw[e5];have qz:=Mv hv c2 n2 hn;refine az (fun g2=>?_) (fun g2=>?_)
    ·have g2:n2=1:=by have:(n2:Int)=1:=by simpa using g2
                      omega
     subst g2;rw[Nat.one_mul] at qz
     repeat' first|apply ww|apply wm;intro _|apply wb
     refine MM tg rM ?_;refine xa (by rfl) ?_
     repeat' first|apply ww|apply wm;intro _|apply wb
     exact fun w3 h3=>⟨⟨i+1,c2,out+2^i,rM,LQ,by omega,qz,rfl,h3⟩,by show 128-((i+1:Nat):Int).toNat<128-(i:Int).toNat;omega⟩
    ·have g2:n2=0:=by have: ¬(n2:Int)=1:=by simpa using g2
                      omega
     subst g2;rw[Nat.zero_mul,aev] at qz;exact fun w3 h3=>⟨⟨i+1,c2,out,rM,LQ,by omega,qz,rfl,h3⟩,by show 128-((i+1:Nat):Int).toNat<128-(i:Int).toNat;omega⟩
   unfold cm.j1 at key;rw[e5] at key;refine az (fun g2=>?_) (fun g2=>?_)
   ·have g2:=of_decide_eq_true g2;rw[ah (by omega)];obtain⟨n2,VC⟩:=adL (show 0≤((a/2^i%2:Nat):Int) -((b/2^i%2:Nat):Int) -(c:Int)+2 by omega);rw[VC];exact key 1 n2 (by omega) (by omega) (by omega)
   ·have g2:=of_decide_eq_false g2;obtain⟨n2,VC⟩:=adL (show 0≤((a/2^i%2:Nat):Int) -((b/2^i%2:Nat):Int) -(c:Int) by omega);rw[VC];exact key 0 n2 (by omega) (by omega) (by omega)
  ·have iM:i=128:=by have:=of_decide_eq_false g1;omega
   subst iM;rw[aej (show a<2^128 from ha),aej (show b<2^128 from hb)] at hv;have hh:out=a-b:=by
    have:c=0:=by
     rcases Nat.eq_zero_or_pos c with hz|hz
     ·exact hz
     ·have:c=1:=by omega
      subst this;omega
    subst this;omega
   rw[hh]
   repeat' first|apply ww|apply wm;intro _|apply wb
   exact T.dp h
def Ax{r3 r4 r5:Nat}{x y z:Nat}(hx:x<aO)(hy:y<aO)(hz:z<aO)(h:T W L (K (.agg ⟨nm (x-(y+z))⟩))):T W (Sep.pt r5 (nm z)::Sep.pt r4 (nm y)::Sep.pt r3 (nm x)::Sep.pt r2 [.u 0,.u 0]::L) (bq.j1 K r4 r5 r3 r2):=by
 unfold bq.j1 bq.j2
 repeat' first|apply ww|apply wm;intro _|apply wb
 refine pV hy hz ?_;unfold add;by_cases hs:y+z<aO
 ·rw[if_pos hs,decide_eq_true hs]
  repeat' first|apply ww|apply wm;intro _|apply wb
  refine Fj hx hs ?_
  repeat' first|apply ww|apply wm;intro _|apply wb
  exact T.dp h
 ·rw[if_neg hs,decide_eq_false hs]
  repeat' first|apply ww|apply wm;intro _|apply wb
  refine Kg ?_
  repeat' first|apply ww|apply wm;intro _|apply wb
  refine Fj hx (by unfold aO;decide) ?_
  repeat' first|apply ww|apply wm;intro _|apply wb
  rw[show x-(aO-1)=x-(y+z) by omega];exact T.dp h
def xm{p:Bool}(ha:a.dp<aO∧a.dq<aO∧a.cp<aO∧a.cq<aO)(h:T W L (K (.agg ⟨nm (iI a p)⟩))):T W L (bq (ak a) p K):=by
 obtain⟨h1,h2,h3,h4⟩:=ha;unfold bq
 repeat' first|apply ww|apply wm;intro _|apply wb
 cases p with
 |true=>
  repeat' first|apply ww|apply wm;intro _|apply wb
  refine Ax h4 h1 h2 ?_;exact T.dp h
 |false=>
  repeat' first|apply ww|apply wm;intro _|apply wb
  refine Ax h2 h3 h4 ?_;exact T.dp h
end
def Ae(a:aS)(d:Bool):Nat:=if d then a.dp else a.cp
def Ad(a:aS)(d:Bool):Nat:=if d then a.dq else a.cq
def I5(a:aS)(d:Bool)(x y:Nat):aS:=if d then{a with dp:=x,dq:=y} else{a with cp:=x,cq:=y}
def Cp(d:Bool):Int:=if d then 2 else 4
def Qd(a:aS)(d:Bool)(n:Nat)(p:Bool):more a d n p=
 if aO≤Ae a d+Ad a d+n then(a,32) else if has a.flags (Cp d)∧iI a d<n then(a,if d then 33 else 34)
 else(I5 a d (if p then Ae a d+n else Ae a d) (if p then Ad a d else Ad a d+n),0):=by
 cases d<;>cases p<;>rfl
section
variable {W:World} {L R:LH} {K:VK} {X Y:WK} {a:aS} {t:Move} {r1 r2 r3 r4 r5:Nat}
def Au{d:Bool}{x y n:Nat}(h:T W L (K (.tuple ⟨[.agg ⟨ak (I5 a d x y)⟩,.i 0]⟩))):T W (Sep.pt r5 (nm y)::Sep.pt r4 (nm x)::Sep.pt r3 (ak zA)::Sep.pt r2 (nm n)::Sep.pt r1 (ak a)::L) (aP.j4 K d r4 r1 r5 r3):=by
 unfold aP.j4;unfold I5 at h;cases d with
 |true=>
  repeat' first|apply ww|apply wm;intro _|apply wb
  exact T.dp h
 |false=>
  repeat' first|apply ww|apply wm;intro _|apply wb
  exact T.dp h
def Av{d p b:Bool}{x y n:Nat}(hx:x<aO)(hy:y<aO)(hn:n<aO)(hs:x+y+n<aO)
 (h:T W L (K (.tuple ⟨[.agg ⟨ak (if b=true then a else I5 a d (if p then x+n else x) (if p then y else y+n))⟩,.i (if b=true then(if d then 33 else 34) else 0)]⟩))):
 T W (Sep.pt r5 (nm y)::Sep.pt r4 (nm x)::Sep.pt r3 (ak zA)::Sep.pt r2 (nm n)::Sep.pt r1 (ak a)::L) (aP.j3 K d r1 r3 p r4 r2 r5 b):=by
 unfold aP.j3;cases b with
 |true=>
  rw[if_pos rfl,if_pos rfl] at h;cases d with
  |true=>
   repeat' first|apply ww|apply wm;intro _|apply wb
   exact T.dp h
  |false=>
   repeat' first|apply ww|apply wm;intro _|apply wb
   exact T.dp h
 |false=>
  rw[if_neg ad4,if_neg ad4] at h;cases p with
  |true=>
   have e:add x n=x+n:=if_pos (by omega)
   repeat' first|apply ww|apply wm;intro _|apply wb
   refine pV hx hn ?_;rw[e]
   repeat' first|apply ww|apply wm;intro _|apply wb
   exact Au h
  |false=>
   have e:add y n=y+n:=if_pos (by omega)
   repeat' first|apply ww|apply wm;intro _|apply wb
   refine pV hy hn ?_;rw[e]
   repeat' first|apply ww|apply wm;intro _|apply wb
   exact Au h
def Aw{d p:Bool}{n:Nat}(ha:a.dp<aO∧a.dq<aO∧a.cp<aO∧a.cq<aO)(hn:n<aO)(hf:0≤a.flags∧a.flags<256)(h:T W L (K (.tuple ⟨[.agg ⟨ak (more a d n p).1⟩,.i (more a d n p).2]⟩))):
 T W (Sep.pt r5 (nm (Ad a d))::Sep.pt r4 (nm (Ae a d))::Sep.pt r3 (ak zA)::Sep.pt r2 (nm n)::Sep.pt r1 (ak a)::L) (aP.j1 K r4 r5 r2 r1 r3 d p (Cp d)):=by
 unfold aP.j1 aP.j2;have hx:Ae a d<aO:=by unfold Ae;split<;>omega
 have hy:Ad a d<aO:=by unfold Ad;split<;>omega
 have hand:bG .i64 .and a.flags (Cp d)=0↔ ¬has a.flags (Cp d):=by
  cases d
  ·exact Gw hf.1 hf.2
  ·exact Gx hf.1 hf.2
 rw[Qd] at h;generalize hX:Ae a d=x at *;generalize hY:Ad a d=y at *
 repeat' first|apply ww|apply wm;intro _|apply wb
 refine pV hx hy ?_
 repeat' first|apply ww|apply wm;intro _|apply wb
 refine pV (Bz _ _) hn ?_
 repeat' first|apply ww|apply wm;intro _|apply wb
 by_cases hs:x+y<aO
 ·rw[decide_eq_true hs];have e:add x y=x+y:=if_pos hs;rw[e]
  repeat' first|apply ww|apply wm;intro _|apply wb
  by_cases gN:x+y+n<aO
  ·rw[if_neg (by omega)] at h;rw[decide_eq_true gN]
   repeat' first|apply ww|apply wm;intro _|apply wb
   refine az (fun g1=>?_) (fun g1=>?_)
   ·have g1:has a.flags (Cp d):=Decidable.byContradiction fun hh=>by rw[hand.2 hh] at g1;simp at g1
    repeat' first|apply ww|apply wm;intro _|apply wb
    refine xm ha ?_
    repeat' first|apply ww|apply wm;intro _|apply wb
    refine uk ?_ hn ?_
    ·unfold iI;split<;>omega
    repeat' first|apply ww|apply wm;intro _|apply wb
    rename_i r6 r7;refine T.drop (T.drop (Av hx hy hn gN ?_));by_cases hl:iI a d<n
    ·rw[if_pos ⟨g1,hl⟩] at h;rw[if_pos (decide_eq_true hl),if_pos (decide_eq_true hl)];exact h
    ·rw[if_neg (fun hh=>hl hh.2)] at h;rw[if_neg (fun hh=>hl (of_decide_eq_true hh)),if_neg (fun hh=>hl (of_decide_eq_true hh))];exact h
   ·have g1: ¬has a.flags (Cp d):=hand.1 (by simpa using g1);rw[if_neg (fun hh=>g1 hh.1)] at h;exact T.drop (T.drop (Av hx hy hn gN (by rw[if_neg ad4,if_neg ad4];exact h)))
  ·rw[if_pos (by omega)] at h;rw[decide_eq_false gN]
   repeat' first|apply ww|apply wm;intro _|apply wb
   exact T.dp h
 ·rw[if_pos (by omega)] at h;rw[decide_eq_false hs]
  repeat' first|apply ww|apply wm;intro _|apply wb
  exact T.dp h
def CB{d p:Bool}{n:Nat}(ha:a.dp<aO∧a.dq<aO∧a.cp<aO∧a.cq<aO)(hn:n<aO)(hf:0≤a.flags∧a.flags<256)(h:T W L (K (.tuple ⟨[.agg ⟨ak (more a d n p).1⟩,.i (more a d n p).2]⟩))):T W L (aP (ak a) d (nm n) p K):=by
 unfold aP
 repeat' first|apply ww|apply wm;intro _|apply wb
 cases d with
 |true=>
  repeat' first|apply ww|apply wm;intro _|apply wb
  exact Aw (d:=true) ha hn hf h
 |false=>
  repeat' first|apply ww|apply wm;intro _|apply wb
  exact Aw (d:=false) ha hn hf h
end
structure KM(k:Kept):Prop where
 asked:uY k.asked
 move:uY k.move
 qv:0≤k.asked.flags∧k.asked.flags<256
 rG:0≤k.move.flags∧k.move.flags<256
 timeout:0≤k.move.timeout∧k.move.timeout≤1073741824
 born:0≤k.move.born∧k.move.born≤1099511627776
structure RM(m:Model):Prop where
 ground:Md.Ground m
 clock:0≤m.clock∧m.clock≤1099511627776
 af:m.af=m.made.length+m.kept.length
 made:∀a∈m.made,vy a
 kept:∀k∈m.kept,KM k
def RM.I8{m:Model}(hg:Good (bo m))(r9:Md.Ground m):RM m:=by
 refine⟨r9,hg.clock,?_,fun a ha=>?_,fun k hk=>?_⟩
 ·have:=hg.af;unfold bo at this;simpa using this
 ·have h1:=(hg.LW (Md.full m.kept a) (List.mem_map_of_mem ha)).ok;obtain⟨z1,z2,z3,z4,z5,z6⟩:=r9.zero a ha;exact⟨h1.id,by rw[z1];decide,by rw[z2];decide,by rw[z3];decide,by rw[z4];decide,h1.aJ,h1.code,⟨by omega,by omega⟩,h1.af⟩
 ·have h1:=hg.LB k hk;exact⟨h1.asked,h1.move,h1.qv,h1.rG,h1.timeout,h1.born⟩
def RM.Vo{m:Model}(h:RM m):∀a∈m.made,GJ a:=fun a ha=>by
 obtain⟨z1,z2,z3,z4,z5,z6⟩:=h.ground.zero a ha;have:(0:Nat)<aO:=by decide
 exact⟨by omega,by omega,by omega,by omega,by omega,by omega⟩
def RM.Wi{m:Model}(h:RM m):∀k∈m.kept,VU k:=fun k hk=>by
 have h1:=h.kept k hk;exact⟨h1.move.aC,h1.rG.1,by have:=h1.rG.2;omega⟩
def RM.mC{m:Model}(h:RM m):m.made.length≤32:=h.ground.mC
def RM.many{m:Model}(h:RM m):m.kept.length≤96:=h.ground.some_
def Df{a:aS}(h:qE a=0):0≤a.flags∧a.flags≤7:=by
 unfold qE at h;by_cases h1:a.flags<0∨7<a.flags
 ·rw[if_pos h1] at h;omega
 ·omega
def rV{t:Move}(h:lE t=0):(0≤t.flags∧t.flags≤255)∧0≤t.timeout∧t.timeout≤1073741824:=by
 unfold lE at h;by_cases h1:t.flags<0∨255<t.flags
 ·rw[if_pos h1] at h;omega
 rw[if_neg h1] at h;by_cases h2:t.id=0
 ·rw[if_pos h2] at h;omega
 rw[if_neg h2] at h;by_cases h3:t.id=aO-1
 ·rw[if_pos h3] at h;omega
 rw[if_neg h3] at h;by_cases h4: ¬gW t.flags
 ·rw[if_pos h4] at h;omega
 rw[if_neg h4] at h;by_cases h5:t.af≠0∨t.born≠0
 ·rw[if_pos h5] at h;omega
 rw[if_neg h5] at h;by_cases h6:t.timeout<0∨1073741824<t.timeout∨0<t.timeout∧¬has t.flags 2
 ·rw[if_pos h6] at h;omega
 ·omega
def Rb{m:Model}(hg:Md.Ground m)(a:aS):Md.Ground (m.make a).2:=((o9 m).make hg).2.2
def Ra{m:Model}(hg:Md.Ground m)(t:Move):Md.Ground (m.move t).2:=((o9 m).move hg).2.2
def Rc{m:Model}(hg:Md.Ground m)(t:Move):Md.Ground (m.mH t).2:=((o9 m).mH hg).2.2
def RM.make{m:Model}{a:aS}(h:RM m)(ha:vy a):RM (m.make a).2:=by
 have r9:=Rb h.ground a;have e:(m.make a).2=m∨(qE a=0∧(m.make a).2={m with af:=m.af+1,made:=m.made++[{a with af:=m.af+1,flags:=a.flags/2* 2}]}):=by
  unfold Model.make;by_cases h1:qE a≠0
  ·rw[if_pos h1];exact .inl rfl
  ·rw[if_neg h1];split
   ·exact .inl rfl
   ·by_cases h2:32≤m.made.length
    ·rw[if_pos h2];exact .inl rfl
    ·rw[if_neg h2];exact .inr ⟨by omega,rfl⟩
 rcases e with e|⟨hc,e⟩
 ·rw[e];exact h
 ·rw[e] at r9⊢;have hf:=Df hc;have rN:=h.mC;have rL:=h.many;have qz:=h.af;refine⟨r9,h.clock,?_,fun x hx=>?_,h.kept⟩
  ·show m.af+1=((m.made++[_]).length:Int)+(m.kept.length:Int);rw[adD,aeZ];omega
  ·rcases aee.1 hx with hx|hx
   ·exact h.made x hx
   ·cases(show x=_ by simpa using hx)
    exact⟨ha.id,ha.dp,ha.dq,ha.cp,ha.cq,ha.aJ,ha.code,⟨by show _≤a.flags/2* 2;omega,by show a.flags/2* 2≤_;omega⟩,⟨by show _≤m.af+1;omega,by show m.af+1≤_;omega⟩⟩
def RM.kY{m:Model}{t u:Move}{fate:Int}(h:RM m)(r9:Md.Ground (m.kY t u fate))(hm:m.kept.length<96)(ht:uY t)(hu:uY u)(hf:0≤t.flags∧t.flags<256)(huf:u.flags=t.flags)(YY:0≤u.timeout∧u.timeout≤1073741824):RM (m.kY t u fate):=by
 have qz:=h.af;have rN:=h.mC;have Xt:=h.clock;refine⟨r9,h.clock,?_,h.made,fun k hk=>?_⟩
 ·show m.af+1=(m.made.length:Int)+((m.kept++[_]).length:Int);rw[adD,aeZ];omega
 ·rcases aee.1 hk with hk|hk
  ·exact h.kept k hk
  ·cases(show k=_ by simpa using hk)
   exact⟨ht,⟨hu.id,hu.aH,hu.ar,hu.aC,hu.pending,hu.timeout,hu.aJ,hu.code,hu.flags,⟨by show _≤m.af+1;omega,by show m.af+1≤_;omega⟩,⟨by show _≤m.clock;omega,by show m.clock≤_;omega⟩⟩,hf,by show 0≤u.flags∧u.flags<256;omega,YY,h.clock⟩
def RM.c7{m:Model}(h:RM m)(i:Nat)(f:Int)(r9:Md.Ground (m.c7 i f)):RM (m.c7 i f):=by
 refine⟨r9,h.clock,?_,h.made,fun k hk=>?_⟩
 ·show m.af=(m.made.length:Int)+((m.kept.modify i _).length:Int);rw[List.length_modify];exact h.af
 ·have hk:k∈m.kept.modify i fun k=>{k with fate:=f}:=hk;by_cases hi:i<m.kept.length
  ·rw[modify_eq _ _ _ hi] at hk;rcases aeq hk with hh|hh
   ·exact h.kept k hh
   ·have:=h.kept _ (adZ hi);subst hh;exact⟨this.asked,this.move,this.qv,this.rG,this.timeout,this.born⟩
  ·have:m.kept.modify i (fun k=>{k with fate:=f})=m.kept:=List.modify_eq_self (by omega);rw[this] at hk;exact h.kept k hk
def B1{t:Move}{named:Option Kept}{d c:Option aS}{many:Nat}(h:(jb t named d c many).1=0):(jb t named d c many).2<aO:=by
 obtain⟨d',c',-,-,-,-,-,-,-,-,-,h1,-⟩:=tK h;omega
def RM.move{m:Model}{t:Move}(h:RM m)(ht:uY t):RM (m.move t).2:=by
 have r9:=Ra h.ground t;unfold Model.move at r9⊢;dsimp only at r9⊢;by_cases h1:(jb t (m.named t.id) ((m.find t.aH).map m.full) ((m.find t.ar).map m.full) m.kept.length).1≠0
 ·rw[if_pos h1];exact h
 ·rw[if_neg h1] at r9⊢;have h1:=adO.1 h1;have ham:=B1 h1;obtain⟨d',c',-,-,-,hc,-,-,-,-,rL,-⟩:=tK h1;obtain⟨z1,z2⟩:=rV hc;exact h.kY r9 rL ht ⟨ht.id,ht.aH,ht.ar,ham,ht.pending,ht.timeout,ht.aJ,ht.code,ht.flags,ht.af,ht.born⟩ ⟨z1.1,by omega⟩ rfl z2
def RM.mH{m:Model}{t:Move}(h:RM m)(ht:uY t):RM (m.mH t).2:=by
 have r9:=Rc h.ground t;unfold Model.mH at r9⊢;cases hn:m.name t.pending with
 |none=>exact h
 |some i=>
  rw[hn] at r9;dsimp only at r9⊢;cases hk:m.kept[i]? with
  |none=>exact h
  |some k=>
   rw[hk] at r9;dsimp only at r9⊢;by_cases h1:lO t (m.named t.id) (some k) (m.closed k.move.aH i) (m.closed k.move.ar i) m.kept.length≠0
   ·rw[if_pos h1];exact h
   ·rw[if_neg h1] at r9⊢;have h1:=adO.1 h1;obtain⟨HH,VD⟩:=adC.1 hk;have mQ:=ad3 hk;have hf:=h.ground.s7 k mQ;obtain⟨-,hc,he,hw,QB,-,rL⟩:=Be h1 hf.1;obtain⟨z1,z2⟩:=rV hc;have Jt:=h.kept k mQ;have aas:m.kept[i].fate=1:=by rw[VD];have:=hf.2.2.1 hw;omega
    have KF:=h.ground.c7 HH aas (f:=cf t) (by unfold cf;split<;>omega);refine(h.c7 i (cf t) KF).kY r9 (by show(m.kept.modify i _).length<96;rw[List.length_modify];exact rL) ht ?_ ⟨z1.1,by omega⟩ rfl z2;refine⟨ht.id,Jt.move.aH,Jt.move.ar,?_,ht.pending,ht.timeout,Jt.move.aJ,Jt.move.code,ht.flags,ht.af,ht.born⟩;show bU t k.move<aO;unfold bU;split
    ·exact Jt.move.aC
    ·exact ht.aC
def RM.oF{m:Model}{t:Move}(h:RM m)(ht:uY t):RM (m.oF t).2:=by
 unfold Model.oF;split
 ·exact h.mH ht
 ·exact h.move ht
def RM.time{m:Model}(h:RM m)(now:Int)(h0:0≤now):RM (m.time now):=by
 refine⟨ET h.ground now,?_,?_,h.made,fun k hk=>?_⟩
 ·show 0≤(if m.clock<now∧now≤1099511627776 then now else m.clock)∧(if m.clock<now∧now≤1099511627776 then now else m.clock)≤1099511627776;have:=h.clock;split<;>omega
 ·show m.af=(m.made.length:Int)+((m.kept.map _).length:Int);rw[ad1];exact h.af
 ·obtain⟨x,hx,rfl⟩:=aek.1 hk;have:=h.kept x hx;have TK:∀(p:Prop) [Decidable p],KM (if p then{x with fate:=4} else x):=fun p _=>by
   by_cases hp:p
   ·rw[if_pos hp];exact⟨this.asked,this.move,this.qv,this.rG,this.timeout,this.born⟩
   ·rw[if_neg hp];exact this
  exact TK _
def nU{α:Type}(P:α→Bool)(l:List α):(l.find? P=none∧l.findIdx? P=none∧AW P l= -1)∨∃i x,l[i]?=some x∧P x=true∧l.find? P=some x∧l.findIdx? P=some i∧AW P l=(i:Int):=by
 cases h:l.findIdx? P with
 |none=>
  left
  have h2:=List.findIdx?_eq_none_iff.1 h;refine⟨aeW.2 fun x hx=>by rw[h2 x hx];decide,rfl,?_⟩;unfold AW;rw[h]
 |some i=>
  right
  obtain⟨hi,h1,h2⟩:=List.findIdx?_eq_some_iff_getElem.1 h;refine⟨i,l[i],adA hi,h1,?_,rfl,?_⟩
  ·rw[List.find?_eq_some_iff_getElem];exact⟨h1,i,hi,rfl,fun j hj=>by simpa using h2 j hj⟩
  ·unfold AW;rw[h]
section
variable {W:World} {L R:LH} {K:VK} {X:WK} {p:Nat} {m:Model} {mb kb:OA} {mc kc:Nat} {a:aS} {t:Move}
def T.LA{A:HP}(h:T W (ML p m mb mc kb kc (A::R)) X):T W (A::ML p m mb mc kb kc R) X:=
 T.perm h (adJ (l₁:=[A]) (l₂:=[_,_,_])|>.append_right R)
def T.in1{A:HP}(h:T W (A::ML p m mb mc kb kc R) X):T W (ML p m mb mc kb kc (A::R)) X:=
 T.perm h (adJ (l₁:=[_,_,_]) (l₂:=[A])|>.append_right R)
def PQ(hm:RM m)(ha:vy a)(h:∀nT nS,T W (ML p (m.make a).2 nT nS kb kc R) (K (.i (m.make a).1))):T W (ML p m mb mc kb kc R) (dM (some ⟨p,0,none⟩) (ak a) K):=by
 unfold dM;have rN:=hm.mC;have rL:=hm.many;have qz:=hm.af
 repeat' first|apply ww|apply wm;intro _|apply wb
 rename_i r1;refine Ho ha ?_
 repeat' first|apply ww|apply wm;intro _|apply wb
 unfold Model.make at h;refine az (fun g1=>?_) (fun g1=>?_)
 ·have g1:qE a≠0:=by simpa using g1
  rw[if_pos g1] at h;have:=h mb mc;exact T.dp this
 have g1:qE a=0:=by simpa using g1
 rw[if_neg (fun hh=>hh g1)] at h;have LN:=Df g1
 repeat' first|apply ww|apply wm;intro _|apply wb
 refine T.LA ?_;refine so (by omega) ?_
 repeat' first|apply ww|apply wm;intro _|apply wb
 unfold Model.find at h;rcases nU (fun x:aS=>decide (x.id=a.id)) m.made with⟨f1,f2,f3⟩|⟨i,x,f1,f2,f3,f4,f5⟩
 ·rw[f1] at h;dsimp only at h;rw[f3];refine fx (by decide) ?_
  repeat' first|apply ww|apply wm;intro _|apply wb
  refine az (fun g2=>?_) (fun g2=>?_)
  ·have g2:=of_decide_eq_true g2;rw[if_pos (by omega)] at h;refine T.in1 ?_;exact T.drop (h mb mc)
  ·have g2:=of_decide_eq_false g2;rw[if_neg (by omega)] at h;have e1:adx.wrap (m.af+1)=m.af+1:=ah (by omega);have e2:adx.wrap (adx.wrap (a.flags.tdiv 2)* 2)=a.flags/2* 2:=by rw[uv LN.1 (by omega) (by decide),ah (by omega)]
   repeat' first|apply ww|apply wm;intro _|apply wb
   rw[e1]
   repeat' first|apply ww|apply wm;intro _|apply wb
   refine c9 (by decide) ?_;rw[e2]
   repeat' first|apply ww|apply wm;intro _|apply wb
   refine jm (b:=mb) (g:=ak) (l:=m.made) (x:={a with af:=m.af+1,flags:=a.flags/2* 2}) (adV _) rfl rfl (by show(m.made.length+1)* 112≤_;omega) (by show m.made.length+1≤_;omega) (gn _) fun b' c'=>?_
   repeat' first|apply ww|apply wm;intro _|apply wb
   have:=h b' c';unfold ML yY at this;simp only[adD,adW,ad6,adE] at this;refine T.sub this ?_;exact nZ
 ·rw[f3] at h;dsimp only at h;rw[f5];have HH:=(adC.1 f1).1;have hz:=hm.ground.zero x (ad3 f1);refine lh (decide_eq_true (by omega)) ?_
  repeat' first|apply ww|apply wm;intro _|apply wb
  refine bV (b:=mb) ⟨by omega,by omega⟩ fun rb hb=>?_;rw[adB];subst hb;refine dV gL f1 ?_;refine Hp (by omega) (by omega) ?_
  repeat' first|apply ww|apply wm;intro _|apply wb
  refine T.in1 ?_;exact T.drop (h _ mc)
end
def TA(m:Model)(t:Move)(d c:aS)(n:Nat):Int×Model:=
 if(more d true n (decide (has t.flags 2))).2≠0 then((more d true n (decide (has t.flags 2))).2,m)
 else if(more c false n (decide (has t.flags 2))).2≠0 then((more c false n (decide (has t.flags 2))).2,m)
 else(0,m.kY t {t with aC:=n} (waits t))
def Vv(m:Model)(t:Move)(d c:aS)(n:Nat):Int×Model:=
 if has t.flags 32 then(if min n (iI c false)=0 then(34,m) else TA m t d c (min n (iI c false))) else TA m t d c n
def WA(m:Model)(t:Move)(d c:aS)(n:Nat):Int×Model:=
 if has t.flags 16 then(if min n (iI d true)=0 then(33,m) else Vv m t d c (min n (iI d true))) else Vv m t d c n
def Wz{m:Model}{t:Move}{d c:aS}(h1:lE t=0)(h2: ¬iR t.flags)(h3:m.named t.id=none)(hd:(m.find t.aH).map m.full=some d)(hc:(m.find t.ar).map m.full=some c)
 (h4:d.aJ=c.aJ)(h5:d.aJ=t.aJ)(h6: ¬8≤d.flags)(h7: ¬8≤c.flags)(h8: ¬96≤m.kept.length):m.move t=WA m t d c (if t.aC=0 then aO-1 else t.aC):=by
 unfold Model.move jb;rw[hd,hc,h3];dsimp only;rw[if_neg (show ¬lE t≠0 from fun hh=>hh h1),if_neg h2,if_neg (show ¬d.aJ≠c.aJ from fun hh=>hh h4),if_neg (show ¬d.aJ≠t.aJ from fun hh=>hh h5),if_neg h6,if_neg h7,if_neg h8];have key:∀n:Nat,bQ t d c=(n,0)→(let r:=(if(bQ t d c).2≠0 then((bQ t d c).2,0) else if(more d true (bQ t d c).1 (decide (has t.flags 2))).2≠0 then((more d true (bQ t d c).1 (decide (has t.flags 2))).2,0)
                         else if(more c false (bQ t d c).1 (decide (has t.flags 2))).2≠0 then((more c false (bQ t d c).1 (decide (has t.flags 2))).2,0) else(0,(bQ t d c).1):Int×Nat)
                         if r.1≠0 then(r.1,m) else(0,m.kY t {t with aC:=r.2} (waits t)))=TA m t d c n:=fun n he=>by
  rw[he];dsimp only;rw[if_neg (show ¬((0:Int)≠0) from fun hh=>hh rfl)];unfold TA;by_cases g1:(more d true n (decide (has t.flags 2))).2≠0
  ·rw[if_pos g1,if_pos g1,if_pos g1]
  ·rw[if_neg g1,if_neg g1];by_cases g2:(more c false n (decide (has t.flags 2))).2≠0
   ·rw[if_pos g2,if_pos g2,if_pos g2]
   ·rw[if_neg g2,if_neg g2]
    rfl
 have bad:∀r:Int,r≠0→bQ t d c=(0,r)→(let r:=(if(bQ t d c).2≠0 then((bQ t d c).2,0) else if(more d true (bQ t d c).1 (decide (has t.flags 2))).2≠0 then((more d true (bQ t d c).1 (decide (has t.flags 2))).2,0)
  else if(more c false (bQ t d c).1 (decide (has t.flags 2))).2≠0 then((more c false (bQ t d c).1 (decide (has t.flags 2))).2,0) else(0,(bQ t d c).1):Int×Nat)
  if r.1≠0 then(r.1,m) else(0,m.kY t {t with aC:=r.2} (waits t)))=(r,m):=fun r hr he=>by
  rw[he];dsimp only;rw[if_pos hr,if_pos hr]
 unfold WA Vv;generalize hn:(if t.aC=0 then aO-1 else t.aC)=n;by_cases a1:has t.flags 16
 ·rw[if_pos a1];by_cases a2:min n (iI d true)=0
  ·rw[if_pos a2];refine bad 33 (by decide) ?_;unfold bQ;rw[hn];simp only[if_pos a1,a1,a2,and_self,if_true]
  ·rw[if_neg a2];by_cases a3:has t.flags 32
   ·rw[if_pos a3];by_cases a4:min (min n (iI d true)) (iI c false)=0
    ·rw[if_pos a4];refine bad 34 (by decide) ?_;unfold bQ;rw[hn];simp only[if_pos a1,if_pos a3,a1,a2,a3,a4,and_self,if_true,and_false,if_false]
    ·rw[if_neg a4];refine key _ ?_;unfold bQ;rw[hn];simp only[if_pos a1,if_pos a3,a1,a2,a3,a4,and_self,if_true,and_false,if_false]
   ·rw[if_neg a3];refine key _ ?_;unfold bQ;rw[hn];simp only[if_pos a1,if_neg a3,a1,a2,a3,and_self,if_true,and_false,false_and,if_false]
 ·rw[if_neg a1];by_cases a3:has t.flags 32
  ·rw[if_pos a3];by_cases a4:min n (iI c false)=0
   ·rw[if_pos a4];refine bad 34 (by decide) ?_;unfold bQ;rw[hn];simp only[if_neg a1,if_pos a3,a1,a3,a4,and_self,if_true,and_false,false_and,if_false]
   ·rw[if_neg a4];refine key _ ?_;unfold bQ;rw[hn];simp only[if_neg a1,if_pos a3,a1,a3,a4,and_self,if_true,and_false,false_and,if_false]
  ·rw[if_neg a3];refine key _ ?_;unfold bQ;rw[hn];simp only[if_neg a1,if_neg a3,a1,a3,and_self,if_true,and_false,false_and,if_false]
section
variable {W:World} {L R:LH} {K:VK} {X:WK} {p:Nat} {m:Model} {mb kb:OA} {mc kc:Nat} {a d c:aS} {t:Move} {r1 r2 r3 r4 r5:Nat} {n:Nat}
def T.EN{L':LH}{A:HP}(h:T W (ML p m mb mc kb kc (A::L')) X):T W (A::ML p m mb mc kb kc L') X:=T.LA h
def Fc(hm:m.kept.length<1000000)(hs:0≤m.af∧m.af<1000000)(hd:GJ d)(hc:GJ c)(O4:d.flags<256)(O7:c.flags<256)(hf:0≤t.flags∧t.flags<1000000)(hn:n<aO)
 (h:∀jd jc,T W (ML p (TA m t d c n).2 mb mc jd jc R) (K (.i (TA m t d c n).1))):
 T W (ML p m mb mc kb kc (Sep.pt r5 (nm n)::Sep.pt r4 [.u 0,.u 0]::Sep.pt r3 (ak c)::Sep.pt r2 (ak d)::Sep.pt r1 (ai t)::R)) (aG.j3 K r1 r2 r5 r3 (some ⟨p,0,none⟩)):=by
 obtain⟨d1,d2,d3,d4,d5,d6⟩:=hd;obtain⟨c1,c2,c3,c4,c5,c6⟩:=hc;unfold aG.j3;unfold TA at h
 repeat' first|apply ww|apply wm;intro _|apply wb
 refine jo hf (by decide) ?_
 repeat' first|apply ww|apply wm;intro _|apply wb
 refine CB ⟨d1,d2,d3,d4⟩ hn ⟨d5,O4⟩ ?_;refine Ps ?_;refine xa (by rfl) ?_
 repeat' first|apply ww|apply wm;intro _|apply wb
 refine az (fun g1=>?_) (fun g1=>?_)
 ·have g1:=bne_iff_ne.1 g1;rw[if_pos g1] at h;refine T.sub (h kb kc) ?_;exact nZ
 have g1:(more d true n (decide (has t.flags 2))).2=0:=by simpa using g1
 rw[if_neg (fun hh=>hh g1)] at h
 repeat' first|apply ww|apply wm;intro _|apply wb
 refine CB ⟨c1,c2,c3,c4⟩ hn ⟨c5,O7⟩ ?_;refine Ps ?_;refine xa (by rfl) ?_
 repeat' first|apply ww|apply wm;intro _|apply wb
 refine az (fun g2=>?_) (fun g2=>?_)
 ·have g2:=bne_iff_ne.1 g2;rw[if_pos g2] at h;refine T.sub (h kb kc) ?_;exact nZ
 have g2:(more c false n (decide (has t.flags 2))).2=0:=by simpa using g2
 rw[if_neg (fun hh=>hh g2)] at h
 repeat' first|apply ww|apply wm;intro _|apply wb
 rename_i r6;refine T.EN ?_;by_cases hw:has t.flags 2
 ·rw[decide_eq_true hw];rw[show waits t=1 from if_pos hw] at h
  repeat' first|apply ww|apply wm;intro _|apply wb
  refine DF hm hs fun b' c'=>?_
  repeat' first|apply ww|apply wm;intro _|apply wb
  refine T.sub (h b' c') ?_;exact nZ
 ·rw[decide_eq_false hw];rw[show waits t=0 from if_neg hw] at h
  repeat' first|apply ww|apply wm;intro _|apply wb
  refine DF hm hs fun b' c'=>?_
  repeat' first|apply ww|apply wm;intro _|apply wb
  refine T.sub (h b' c') ?_;exact nZ
def CO(a b:Nat):(if a<b then a else b)=min a b:=by split<;>omega
def C0{a:aS}{b:Bool}(h:GJ a):iI a b<aO:=by
 obtain⟨h1,h2,h3,h4,_⟩:=h;unfold iI;split<;>omega
def Fe(hm:m.kept.length<1000000)(hs:0≤m.af∧m.af<1000000)(hd:GJ d)(hc:GJ c)(O4:d.flags<256)(O7:c.flags<256)(hf:0≤t.flags∧t.flags<1000000)(hn:n<aO)
 (h:∀jd jc,T W (ML p (Vv m t d c n).2 mb mc jd jc R) (K (.i (Vv m t d c n).1))):
 T W (ML p m mb mc kb kc (Sep.pt r5 (nm n)::Sep.pt r4 [.u 0,.u 0]::Sep.pt r3 (ak c)::Sep.pt r2 (ak d)::Sep.pt r1 (ai t)::R)) (aG.j2 K r1 r5 r3 r4 r2 (some ⟨p,0,none⟩)):=by
 have hl:=C0 (b:=false) hc;unfold aG.j2;unfold Vv at h
 repeat' first|apply ww|apply wm;intro _|apply wb
 refine jo hf (by decide) ?_;by_cases hw:has t.flags 32
 ·rw[decide_eq_true hw];rw[if_pos hw] at h
  repeat' first|apply ww|apply wm;intro _|apply wb
  refine xm ⟨hc.1,hc.2.1,hc.2.2.1,hc.2.2.2.1⟩ ?_;refine xa (by rfl) ?_
  repeat' first|apply ww|apply wm;intro _|apply wb
  refine At hn hl ?_;refine xa (by rfl) ?_;rw[CO]
  repeat' first|apply ww|apply wm;intro _|apply wb
  refine az (fun g1=>?_) (fun g1=>?_)
  ·have g1:=of_decide_eq_true g1;rw[if_pos g1] at h;refine T.sub (h kb kc) ?_;exact nZ
  ·have g1:=of_decide_eq_false g1;rw[if_neg g1] at h;exact Fc hm hs hd hc O4 O7 hf (by omega) h
 ·rw[decide_eq_false hw];rw[if_neg hw] at h
  repeat' first|apply ww|apply wm;intro _|apply wb
  exact Fc hm hs hd hc O4 O7 hf hn h
def Ff(hm:m.kept.length<1000000)(hs:0≤m.af∧m.af<1000000)(hd:GJ d)(hc:GJ c)(O4:d.flags<256)(O7:c.flags<256)(hf:0≤t.flags∧t.flags<1000000)(hn:n<aO)
 (h:∀jd jc,T W (ML p (WA m t d c n).2 mb mc jd jc R) (K (.i (WA m t d c n).1))):
 T W (ML p m mb mc kb kc (Sep.pt r5 (nm n)::Sep.pt r4 [.u 0,.u 0]::Sep.pt r3 (ak c)::Sep.pt r2 (ak d)::Sep.pt r1 (ai t)::R)) (aG.j1 K r1 r5 r2 r4 r3 (some ⟨p,0,none⟩)):=by
 have hl:=C0 (b:=true) hd;unfold aG.j1;unfold WA at h
 repeat' first|apply ww|apply wm;intro _|apply wb
 refine jo hf (by decide) ?_;by_cases hw:has t.flags 16
 ·rw[decide_eq_true hw];rw[if_pos hw] at h
  repeat' first|apply ww|apply wm;intro _|apply wb
  refine xm ⟨hd.1,hd.2.1,hd.2.2.1,hd.2.2.2.1⟩ ?_;refine xa (by rfl) ?_
  repeat' first|apply ww|apply wm;intro _|apply wb
  refine At hn hl ?_;refine xa (by rfl) ?_;rw[CO]
  repeat' first|apply ww|apply wm;intro _|apply wb
  refine az (fun g1=>?_) (fun g1=>?_)
  ·have g1:=of_decide_eq_true g1;rw[if_pos g1] at h;refine T.sub (h kb kc) ?_;exact nZ
  ·have g1:=of_decide_eq_false g1;rw[if_neg g1] at h;exact Fe hm hs hd hc O4 O7 hf (by omega) h
 ·rw[decide_eq_false hw];rw[if_neg hw] at h
  repeat' first|apply ww|apply wm;intro _|apply wb
  exact Fe hm hs hd hc O4 O7 hf hn h
end
section
variable {W:World} {L R:LH} {K:VK} {X:WK} {p:Nat} {m:Model} {mb kb:OA} {mc kc:Nat} {a d c:aS} {t:Move} {r1 r2 r3 r4 r5:Nat} {n:Nat}
def Mg{α:Type}{r n c e o j q:Nat}{l:List α}{x:α}{g:α→LV}{f:HP→LH}{ys:LV}{K:LV→WK}[i:pa (some ⟨r,0,none⟩) n c L e (l.flatMap g) f](hf:∀x,(g x).length=e)(hx:l[o]?=some x)[s:Sub (g x) j q ys](h:T W L (K ys)):T W L (aj ⟨r,o* e+j,none⟩ q K):=fun w hs=>by
 obtain⟨k,hk,_⟩:=i.at_;exact DO hs hk s.is.1 (fun u v hu=>by rw[Nat.add_assoc];exact ov hf l o x hx _ v (s.is.2 u v hu)) (h w hs)
def Mh{α:Type}{r n c e o q:Nat}{l:List α}{x:α}{g:α→LV}{f:HP→LH}{ys:LV}{K:LV→WK}[i:pa (some ⟨r,0,none⟩) n c L e (l.flatMap g) f](hf:∀x,(g x).length=e)(hx:l[o]?=some x)[s:Sub (g x) 0 q ys](h:T W L (K ys)):T W L (aj ⟨r,o* e,none⟩ q K):=Mg (j:=0) hf hx h
def yB{m:Model}(h:RM m){a:aS}(ha:a∈m.made):GJ (m.full a)∧(m.full a).flags<256∧(m.full a).aJ=a.aJ:=by
 have h1:=E9 m.kept (h.Vo a ha);refine⟨h1,?_,?_⟩
 ·rw[h.ground.full ha];obtain⟨z1,z2,z3,z4,z5,z6⟩:=h.ground.zero a ha;show(if S (qn a.id) m.kept=0 then a.flags else a.flags%8+8)<256;split<;>omega
 ·rw[h.ground.full ha];rfl
def N4{m:Model}{t:Move}{r:Int}(hr:r≠0)(h:jb t (m.named t.id) ((m.find t.aH).map m.full) ((m.find t.ar).map m.full) m.kept.length=(r,0)):m.move t=(r,m):=by
 unfold Model.move;rw[h];dsimp only;rw[if_pos hr]
def I0(hm:RM m)(ht:uY t)(h:∀jd jc,T W (ML p (m.move t).2 mb mc jd jc R) (K (.i (m.move t).1))):T W (ML p m mb mc kb kc R) (aG (some ⟨p,0,none⟩) (ai t) K):=by
 unfold aG;have rN:=hm.mC;have rL:=hm.many;have qz:=hm.af
 repeat' first|apply ww|apply wm;intro _|apply wb
 rename_i r1;refine ve ht ?_
 repeat' first|apply ww|apply wm;intro _|apply wb
 have py:∀r:Int,r≠0→jb t (m.named t.id) ((m.find t.aH).map m.full) ((m.find t.ar).map m.full) m.kept.length=(r,0)→∀jd jc,T W (ML p m mb mc jd jc R) (K (.int .i64 r)):=fun r hr he jd jc=>by
  have:=h jd jc;rw[N4 hr he] at this;exact this
 unfold jb at py;refine az (fun g1=>?_) (fun g1=>?_)
 ·have g1:lE t≠0:=by simpa using g1
  rw[if_pos g1] at py;have:=py _ g1 rfl kb kc;exact T.dp this
 have g1:lE t=0:=by simpa using g1
 rw[if_neg (fun hh=>hh g1)] at py;obtain⟨LN,YY⟩:=rV g1;have hf:0≤t.flags∧t.flags<1000000:=by omega
 repeat' first|apply ww|apply wm;intro _|apply wb
 refine rF hf ?_
 repeat' first|apply ww|apply wm;intro _|apply wb
 refine az (fun g2=>?_) (fun g2=>?_)
 ·have g2:=of_decide_eq_true g2;rw[if_pos g2] at py;have:=py _ (by decide) rfl kb kc;exact T.dp this
 have g2:=of_decide_eq_false g2;rw[if_neg g2] at py
 repeat' first|apply ww|apply wm;intro _|apply wb
 refine T.LA ?_;refine DE (by omega) ?_
 repeat' first|apply ww|apply wm;intro _|apply wb
 have Jq:m.named t.id=m.kept.find? fun k=>decide (k.move.id=t.id):=rfl;rcases nU (fun x:Kept=>decide (x.move.id=t.id)) m.kept with⟨f1,f2,f3⟩|⟨i,x,f1,f2,f3,f4,f5⟩
 rotate_left
 ·rw[Jq,f3] at py;dsimp only at py;rw[f5];have HH:=(adC.1 f1).1;have hx:=hm.kept x (ad3 f1);refine lh (decide_eq_true (by omega)) ?_
  repeat' first|apply ww|apply wm;intro _|apply wb
  refine bV (b:=kb) ⟨by omega,by omega⟩ fun rb hb=>?_;rw[adB];subst hb;refine Mh hG f1 ?_;refine Ay hf ⟨hx.qv.1,by have:=hx.qv.2;omega⟩ ?_
  repeat' first|apply ww|apply wm;intro _|apply wb
  refine T.sub (py _ (oW _ _) rfl (some ⟨rb,0,none⟩) kc) ?_;exact nZ
 rw[Jq,f1] at py;dsimp only at py;rw[f3];refine fx (by decide) ?_
 repeat' first|apply ww|apply wm;intro _|apply wb
 refine so (by omega) ?_
 repeat' first|apply ww|apply wm;intro _|apply wb
 refine so (by omega) ?_
 repeat' first|apply ww|apply wm;intro _|apply wb
 have Sh:m.find t.aH=m.made.find? fun a=>decide (a.id=t.aH):=rfl;have Si:m.find t.ar=m.made.find? fun a=>decide (a.id=t.ar):=rfl;rcases nU (fun x:aS=>decide (x.id=t.aH)) m.made with⟨d1,d2,d3⟩|⟨i,d,d1,d2,d3,d4,d5⟩
 ·rw[Sh,d1] at py;rw[d3];refine lh (by decide) ?_;refine T.sub (py 19 (by decide) rfl kb kc) ?_;exact nZ
 rw[Sh,d3] at py;rw[d5];refine fx (decide_eq_false (by omega)) ?_;rcases nU (fun x:aS=>decide (x.id=t.ar)) m.made with⟨c1,c2,c3⟩|⟨j,c,c1,c2,c3,c4,c5⟩
 ·rw[Si,c1] at py;rw[c3];refine lh (by decide) ?_;refine T.sub (py 20 (by decide) rfl kb kc) ?_;exact nZ
 rw[Si,c3] at py;rw[c5];refine fx (decide_eq_false (by omega)) ?_;dsimp only[ael] at py;have DW:=ad3 d1;have LP:=ad3 c1;obtain⟨hda,O4,wC⟩:=yB hm DW;obtain⟨hca,O7,mF⟩:=yB hm LP;refine zk (by omega) d1 (hm.Vo d DW) hm.Wi ?_;refine xa (by rfl) ?_
 repeat' first|apply ww|apply wm;intro _|apply wb
 rename_i r2;refine T.EN ?_;refine zk (by omega) c1 (hm.Vo c LP) hm.Wi ?_;refine xa (by rfl) ?_
 repeat' first|apply ww|apply wm;intro _|apply wb
 rename_i r3;refine T.EN ?_;have ed:m.kept.foldl sn d=m.full d:=rfl;have ec:m.kept.foldl sn c=m.full c:=rfl;rw[ed,ec];refine az (fun g3=>?_) (fun g3=>?_)
 ·have g3:=bne_iff_ne.1 g3;rw[if_pos g3] at py;refine T.sub (py _ (by decide) rfl kb kc) ?_;exact nZ
 have g3:(m.full d).aJ=(m.full c).aJ:=by simpa using g3
 rw[if_neg (fun hh=>hh g3)] at py
 repeat' first|apply ww|apply wm;intro _|apply wb
 refine az (fun g4=>?_) (fun g4=>?_)
 ·have g4:=bne_iff_ne.1 g4;rw[if_pos g4] at py;refine T.sub (py _ (by decide) rfl kb kc) ?_;exact nZ
 have g4:(m.full d).aJ=t.aJ:=by simpa using g4
 rw[if_neg (fun hh=>hh g4)] at py
 repeat' first|apply ww|apply wm;intro _|apply wb
 refine az (fun g5=>?_) (fun g5=>?_)
 ·have g5:=of_decide_eq_true g5;rw[if_pos (show 8≤(m.full d).flags by omega)] at py;refine T.sub (py _ (by decide) rfl kb kc) ?_;exact nZ
 have g5:=of_decide_eq_false g5;rw[if_neg (show ¬8≤(m.full d).flags by omega)] at py
 repeat' first|apply ww|apply wm;intro _|apply wb
 refine az (fun g6=>?_) (fun g6=>?_)
 ·have g6:=of_decide_eq_true g6;rw[if_pos (show 8≤(m.full c).flags by omega)] at py;refine T.sub (py _ (by decide) rfl kb kc) ?_;exact nZ
 have g6:=of_decide_eq_false g6;rw[if_neg (show ¬8≤(m.full c).flags by omega)] at py
 repeat' first|apply ww|apply wm;intro _|apply wb
 refine az (fun g7=>?_) (fun g7=>?_)
 ·have g7:=of_decide_eq_true g7;rw[if_pos (show 96≤m.kept.length by omega)] at py;refine T.sub (py _ (by decide) rfl kb kc) ?_;exact nZ
 have g7:=of_decide_eq_false g7;have hmi:=Wz (m:=m) (t:=t) (d:=m.full d) (c:=m.full c) g1 g2 (by rw[Jq,f1]) (by rw[Sh,d3];rfl) (by rw[Si,c3];rfl) g3 g4 (by omega) (by omega) (by omega);rw[hmi] at h
 repeat' first|apply ww|apply wm;intro _|apply wb
 rename_i r4 r5;refine az (fun g8=>?_) (fun g8=>?_)
 ·have g8:=of_decide_eq_true g8;rw[if_pos g8] at h
  repeat' first|apply ww|apply wm;intro _|apply wb
  have ew:([.int .u64 18446744073709551615,.int .u64 18446744073709551615]:LV)=nm (aO-1):=by unfold nm aO;rfl
  rw[ew];refine T.perm (L:=ML p m mb mc kb kc (Sep.pt r5 (nm (aO-1))::Sep.pt r4 [.u 0,.u 0]::Sep.pt r3 (ak (m.full c))::Sep.pt r2 (ak (m.full d))::Sep.pt r1 (ai t)::R)) ?_ (adJ (l₁:=[Sep.pt r5 (nm (aO-1)),Sep.pt r4 [.u 0,.u 0]]) (l₂:=[_,_,_])|>.append_right _);exact Ff (by omega) (by omega) hda hca O4 O7 hf (by unfold aO;decide) h
 ·have g8:=of_decide_eq_false g8;rw[if_neg g8] at h;refine T.perm (L:=ML p m mb mc kb kc (Sep.pt r5 (nm t.aC)::Sep.pt r4 [.u 0,.u 0]::Sep.pt r3 (ak (m.full c))::Sep.pt r2 (ak (m.full d))::Sep.pt r1 (ai t)::R)) ?_ (adJ (l₁:=[Sep.pt r5 (nm t.aC),Sep.pt r4 [.u 0,.u 0]]) (l₂:=[_,_,_])|>.append_right _);exact Ff (by omega) (by omega) hda hca O4 O7 hf ht.aC h
end
def NJ(m:Model)(t:Move)(i:Nat)(k:Kept):Int×Model:=
 if jL t k.move then(26,m) else if has t.flags 4∧m.closed k.move.aH i=true then(30,m) else if has t.flags 4∧m.closed k.move.ar i=true then(31,m) else if 96≤m.kept.length then(35,m)
 else(0,(m.c7 i (cf t)).kY t (kK t k.move) 0)
def XP{m:Model}{t:Move}{i:Nat}{k:Kept}(h1:lE t=0)(h2:iR t.flags)(h3:m.named t.id=none)(hi:m.name t.pending=some i)(hk:m.kept[i]?=some k)
 (h4:has k.move.flags 2)(h5: ¬dA t k.move)(h6: ¬1<k.fate):m.mH t=NJ m t i k:=by
 unfold Model.mH lO;rw[hi];dsimp only;rw[hk,h3];dsimp only;rw[if_neg (show ¬lE t≠0 from fun hh=>hh h1),if_neg (show ¬ ¬iR t.flags from fun hh=>hh h2),if_neg (show ¬ ¬has k.move.flags 2 from fun hh=>hh h4),if_neg h5,if_neg h6];unfold NJ;by_cases a1:jL t k.move
 ·rw[if_pos a1,if_pos a1];rfl
 rw[if_neg a1,if_neg a1];by_cases a2:has t.flags 4∧m.closed k.move.aH i=true
 ·rw[if_pos a2,if_pos a2];rfl
 rw[if_neg a2,if_neg a2];by_cases a3:has t.flags 4∧m.closed k.move.ar i=true
 ·rw[if_pos a3,if_pos a3];rfl
 rw[if_neg a3,if_neg a3];by_cases a4:96≤m.kept.length
 ·rw[if_pos a4,if_pos a4];rfl
 rw[if_neg a4,if_neg a4];rfl
def E4{m:Model}{i:Nat}{x:Kept}(hx:m.kept[i]?=some x)(f:Int):m.c7 i f={m with kept:=m.kept.set i {x with fate:=f}}:=by
 obtain⟨hi,he⟩:=adC.1 hx;unfold Model.c7;rw[modify_eq _ _ _ hi,he]
def H7{m:Model}{i:Nat}{x:Kept}{id:Nat}{a:aS}(hx:m.kept[i]?=some x)(hf:m.find id=some a):m.closed id i=decide (8≤((m.kept.set i {x with fate:=3}).foldl sn a).flags):=by
 obtain⟨hi,he⟩:=adC.1 hx;unfold Model.closed;rw[hf];dsimp only;rw[modify_eq _ _ _ hi,he]
section
variable {W:World} {L R:LH} {K:VK} {X:WK} {p:Nat} {m:Model} {mb kb:OA} {mc kc:Nat} {a d c:aS} {t u:Move} {r1 r2 r3 r4 r5:Nat} {n i:Nat} {x:Kept}
def Ap(hm:RM m)(hx:m.kept[i]?=some x){id:Nat}(A5:id∈m.made.map (·.id))(h:T W (ML p m mb mc kb kc R) (K (.bool (m.closed id i)))):T W (ML p m mb mc kb kc R) (bY (some ⟨p,0,none⟩) (nm id) (i:Int) K):=by
 have rN:=hm.mC;have rL:=hm.many;rcases nU (fun x:aS=>decide (x.id=id)) m.made with⟨f1,f2,f3⟩|⟨j,y,f1,f2,f3,f4,f5⟩
 ·obtain⟨a,ha,he⟩:=aek.1 A5;have:=aeW.1 f1 a ha;rw[he] at this;exact absurd (decide_eq_true rfl) this
 ·rw[H7 hx (show m.find id=some y from f3)] at h;exact Kc (by omega) (by omega) hx f5 f1 (hm.Vo y (ad3 f1)) hm.Wi h
def I2(hs:0≤m.af∧m.af<1000000)(hm:m.kept.length<1000000)(hn:n=bU t u)
 (h:∀jd jc,T W (ML p (m.kY t (kK t u) 0) mb mc jd jc R) (K (.i 0))):
 T W (ML p m mb mc kb kc (Sep.pt r4 (nm n)::Sep.pt r3 [.u 0,.u 0]::Sep.pt r2 (ai u)::Sep.pt r1 (ai t)::R)) (ae.j6 K r1 r2 r4 (some ⟨p,0,none⟩)):=by
 unfold ae.j6;subst hn
 repeat' first|apply ww|apply wm;intro _|apply wb
 rename_i r5;refine T.EN ?_;refine DF (u:=kK t u) hm hs fun b' c'=>?_
 repeat' first|apply ww|apply wm;intro _|apply wb
 refine T.sub (h b' c') ?_;exact nZ
def I3(hm:RM m)(hx:m.kept[i]?=some x)(QB: ¬1<x.fate)
 (h:∀jd jc,T W (ML p (NJ m t i x).2 mb mc jd jc R) (K (.i (NJ m t i x).1)))(ht:t.aC<aO):
 T W (ML p m mb mc kb kc (Sep.pt r4 (nm (bU t x.move))::Sep.pt r3 [.u 0,.u 0]::Sep.pt r2 (ai x.move)::Sep.pt r1 (ai t)::R)) (ae.j2 K (decide (has t.flags 4)) r2 r4 (some ⟨p,0,none⟩) (i:Int) r1):=by
 have rN:=hm.mC;have rL:=hm.many;have qz:=hm.af;have mQ:=ad3 hx;have HH:=(adC.1 hx).1;have OS:=hm.ground.tB x mQ;have Nk:=hm.kept x mQ;have hea:bU t x.move<aO:=by unfold bU;split;exact Nk.move.aC;exact ht
 have KF:∀f:Int,∀jd jc,T W (ML p (m.c7 i f) mb mc jd jc (Sep.pt r4 (nm (bU t x.move))::Sep.pt r3 [.u 0,.u 0]::Sep.pt r2 (ai x.move)::Sep.pt r1 (ai t)::R)) (ae.j6 K r1 r2 r4 (some ⟨p,0,none⟩))→
  T W (Sep.pt p (yY m mb mc jd jc)::own mb m.made.length mc 14 (m.made.flatMap ak)::own jd m.kept.length jc 33 ((m.kept.set i {x with fate:=f}).flatMap aM)::(Sep.pt r4 (nm (bU t x.move))::Sep.pt r3 [.u 0,.u 0]::Sep.pt r2 (ai x.move)::Sep.pt r1 (ai t)::R)) (ae.j6 K r1 r2 r4 (some ⟨p,0,none⟩)):=fun f jd jc hh=>by
  rw[E4 hx] at hh;exact Oz aeF hh
 have j5:∀b:Bool,((has t.flags 4∧m.closed x.move.aH i=true)→False)→¬jL t x.move→b=decide (has t.flags 4∧m.closed x.move.ar i=true)→
  T W (ML p m mb mc kb kc (Sep.pt r4 (nm (bU t x.move))::Sep.pt r3 [.u 0,.u 0]::Sep.pt r2 (ai x.move)::Sep.pt r1 (ai t)::R)) (ae.j5 K (some ⟨p,0,none⟩) (i:Int) (decide (has t.flags 4)) r1 r2 r4 b):=fun b FO ji hb=>by
  unfold ae.j5;unfold NJ at h;rw[if_neg ji,if_neg FO] at h;cases b with
  |true=>
   rw[if_pos (of_decide_eq_true hb.symm)] at h
   repeat' first|apply ww|apply wm;intro _|apply wb
   refine T.sub (h kb kc) ?_;exact nZ
  |false=>
   rw[if_neg (of_decide_eq_false hb.symm)] at h
   repeat' first|apply ww|apply wm;intro _|apply wb
   refine az (fun g1=>?_) (fun g1=>?_)
   ·have g1:=of_decide_eq_true g1;rw[if_pos (by omega)] at h;refine T.sub (h kb kc) ?_;exact nZ
   have g1:=of_decide_eq_false g1;rw[if_neg (by omega)] at h
   repeat' first|apply ww|apply wm;intro _|apply wb
   refine bV (b:=kb) ⟨by omega,by omega⟩ fun rb tQ=>?_;rw[adB];subst tQ;refine IC ?_;refine zX (o:=i) (x:=x) (y:={x with fate:=3}) hG hx rfl (by decide) rfl ?_;have R6:m.kept.length=(m.kept.set i {x with fate:=3}).length:=aeF.symm;by_cases h4:has t.flags 4
   ·rw[decide_eq_true h4];rw[show cf t=2 from if_pos h4] at h
    repeat' first|apply ww|apply wm;intro _|apply wb
    refine bV (b:=some ⟨rb,0,none⟩) ⟨by omega,by omega⟩ fun ON tQ=>?_;rw[adB];cases tQ
    refine IC ?_;refine zX (o:=i) (x:={x with fate:=3}) (y:={x with fate:=2}) hG (by rw[List.getElem?_set_self (by omega)]) rfl (by decide) rfl ?_;rw[aeO];refine KF 2 _ _ ?_;refine I2 (m:=m.c7 i 2) (by show 0≤m.af∧m.af<1000000;omega) (by show(m.kept.modify i _).length<_;rw[List.length_modify];omega) rfl h
   ·rw[decide_eq_false h4];rw[show cf t=3 from if_neg h4] at h
    repeat' first|apply ww|apply wm;intro _|apply wb
    refine KF 3 _ _ ?_;refine I2 (m:=m.c7 i 3) (by show 0≤m.af∧m.af<1000000;omega) (by show(m.kept.modify i _).length<_;rw[List.length_modify];omega) rfl h
 have j4:∀b:Bool,¬jL t x.move→b=decide (has t.flags 4∧m.closed x.move.aH i=true)→
  T W (ML p m mb mc kb kc (Sep.pt r4 (nm (bU t x.move))::Sep.pt r3 [.u 0,.u 0]::Sep.pt r2 (ai x.move)::Sep.pt r1 (ai t)::R)) (ae.j4 K (decide (has t.flags 4)) r2 (some ⟨p,0,none⟩) (i:Int) r1 r4 b):=fun b ji hb=>by
  unfold ae.j4;cases b with
  |true=>
   unfold NJ at h;rw[if_neg ji,if_pos (of_decide_eq_true hb.symm)] at h
   repeat' first|apply ww|apply wm;intro _|apply wb
   refine T.sub (h kb kc) ?_;exact nZ
  |false=>
   have FO:=of_decide_eq_false hb.symm;by_cases h4:has t.flags 4
   ·rw[decide_eq_true h4] at j5⊢
    repeat' first|apply ww|apply wm;intro _|apply wb
    refine Ap hm hx OS.2.2 ?_;refine qC ?_;refine j5 _ FO ji ?_;cases mF:m.closed x.move.ar i
    ·exact(decide_eq_false (fun hh=>absurd hh.2 (by decide))).symm
    ·exact(decide_eq_true ⟨h4,rfl⟩).symm
   ·rw[decide_eq_false h4] at j5⊢
    repeat' first|apply ww|apply wm;intro _|apply wb
    exact j5 _ FO ji (decide_eq_false (fun hh=>h4 hh.1)).symm
 have j3:∀b:Bool,b=decide (jL t x.move)→
  T W (ML p m mb mc kb kc (Sep.pt r4 (nm (bU t x.move))::Sep.pt r3 [.u 0,.u 0]::Sep.pt r2 (ai x.move)::Sep.pt r1 (ai t)::R)) (ae.j3 K (decide (has t.flags 4)) r2 (some ⟨p,0,none⟩) (i:Int) r1 r4 b):=fun b hb=>by
  unfold ae.j3;cases b with
  |true=>
   unfold NJ at h;rw[if_pos (of_decide_eq_true hb.symm)] at h
   repeat' first|apply ww|apply wm;intro _|apply wb
   refine T.sub (h kb kc) ?_;exact nZ
  |false=>
   have ji:=of_decide_eq_false hb.symm;by_cases h4:has t.flags 4
   ·rw[decide_eq_true h4] at j4⊢
    repeat' first|apply ww|apply wm;intro _|apply wb
    refine Ap hm hx OS.2.1 ?_;refine qC ?_;refine j4 _ ji ?_;cases mF:m.closed x.move.aH i
    ·exact(decide_eq_false (fun hh=>absurd hh.2 (by decide))).symm
    ·exact(decide_eq_true ⟨h4,rfl⟩).symm
   ·rw[decide_eq_false h4] at j4⊢
    repeat' first|apply ww|apply wm;intro _|apply wb
    exact j4 _ ji (decide_eq_false (fun hh=>h4 hh.1)).symm
 unfold ae.j2 ae.j7;by_cases h4:has t.flags 4
 ·rw[decide_eq_true h4] at j3⊢
  repeat' first|apply ww|apply wm;intro _|apply wb
  refine uk Nk.move.aC hea ?_
  repeat' first|apply ww|apply wm;intro _|apply wb
  refine az (fun g1=>?_) (fun g1=>?_)
  ·have g1:=of_decide_eq_true g1;exact j3 _ (decide_eq_true (show jL t x.move from .inl ⟨h4,g1⟩)).symm
  ·have g1:=of_decide_eq_false g1
   repeat' first|apply ww|apply wm;intro _|apply wb
   refine j3 _ (decide_eq_false (fun hh:jL t x.move=>?_)).symm;rcases hh with hh|hh
   ·exact g1 hh.2
   ·exact hh.1 h4
 ·rw[decide_eq_false h4] at j3⊢
  repeat' first|apply ww|apply wm;intro _|apply wb
  refine j3 _ ?_;by_cases he:bU t x.move=x.move.aC
  ·rw[decide_eq_true he];refine(decide_eq_false (fun hh:jL t x.move=>?_)).symm;rcases hh with hh|hh
   ·exact h4 hh.1
   ·exact hh.2 he
  ·rw[decide_eq_false he];exact(decide_eq_true (show jL t x.move from .inr ⟨h4,he⟩)).symm
end
section
variable {W:World} {L R:LH} {K:VK} {X:WK} {p:Nat} {m:Model} {mb kb:OA} {mc kc:Nat} {a d c:aS} {t u:Move} {r1 r2 r3 r4 r5:Nat} {n i:Nat} {x:Kept}
def Rd{m:Model}{t:Move}{i:Nat}{k:Kept}{r:Int}(hi:m.name t.pending=some i)(hk:m.kept[i]?=some k)(hr:r≠0)(h:lO t (m.named t.id) (some k) (m.closed k.move.aH i) (m.closed k.move.ar i) m.kept.length=r):m.mH t=(r,m):=by
 unfold Model.mH;rw[hi];dsimp only;rw[hk];dsimp only;rw[h,if_pos hr]
def PS{b:Bool}(hm:RM m)(hx:m.kept[i]?=some x)(htf:0≤t.flags∧t.flags<1000000)(ht:t.aC<aO)(hb:b=decide (dA t x.move))
 (h1:dA t x.move→∀jd jc,T W (ML p m mb mc jd jc R) (K (.i 25)))
 (h2: ¬dA t x.move→1<x.fate→∀jd jc,T W (ML p m mb mc jd jc R) (K (.i (25+x.fate))))
 (h: ¬dA t x.move→¬1<x.fate→∀jd jc,T W (ML p (NJ m t i x).2 mb mc jd jc R) (K (.i (NJ m t i x).1))):
 T W (ML p m mb mc kb kc (Sep.pt r3 [.u 0,.u 0]::Sep.pt r2 (ai x.move)::Sep.pt r1 (ai t)::R)) (ae.j1 K (some ⟨p,0,none⟩) (i:Int) r1 r3 r2 b):=by
 have rL:=hm.many;have mQ:=ad3 hx;have HH:=(adC.1 hx).1;have Y7:=hm.ground.s7 x mQ;unfold ae.j1;cases b with
 |true=>
  repeat' first|apply ww|apply wm;intro _|apply wb
  refine T.sub (h1 (of_decide_eq_true hb.symm) kb kc) ?_;exact nZ
 |false=>
  have hn:=of_decide_eq_false hb.symm
  repeat' first|apply ww|apply wm;intro _|apply wb
  refine bV (b:=kb) ⟨by omega,by omega⟩ fun rb tQ=>?_;rw[adB];subst tQ;refine Mj ?_;refine z7 (o:=i) (x:=x) hG hx rfl ?_
  repeat' first|apply ww|apply wm;intro _|apply wb
  refine az (fun g1=>?_) (fun g1=>?_)
  ·have g1:=of_decide_eq_true g1
   repeat' first|apply ww|apply wm;intro _|apply wb
   refine bV (b:=some ⟨rb,0,none⟩) ⟨by omega,by omega⟩ fun ON tQ=>?_;rw[adB];cases tQ
   refine Mj ?_;refine z7 (o:=i) (x:=x) hG hx rfl ?_
   repeat' first|apply ww|apply wm;intro _|apply wb
   rw[ah (by omega)];refine T.sub (h2 hn g1 (some ⟨rb,0,none⟩) kc) ?_;exact nZ
  ·have g1:=of_decide_eq_false g1
   repeat' first|apply ww|apply wm;intro _|apply wb
   refine jo htf (by decide) ?_
   repeat' first|apply ww|apply wm;intro _|apply wb
   rename_i r4;have fin:=h hn g1;refine az (fun g2=>?_) (fun g2=>?_)
   ·have g2:=of_decide_eq_true g2
    repeat' first|apply ww|apply wm;intro _|apply wb
    refine T.EN ?_;have e:bU t x.move=x.move.aC:=if_pos g2;rw[←e];exact I3 hm hx g1 fin ht
   ·have g2:=of_decide_eq_false g2;refine T.EN ?_;have e:bU t x.move=t.aC:=if_neg g2;rw[←e];exact I3 hm hx g1 fin ht
def PR{b:Bool}(hm:RM m)(hx:m.kept[i]?=some x)(htf:0≤t.flags∧t.flags<1000000)(ht:t.aC<aO)(hb:b=decide (t.aH≠0∧t.aH≠x.move.aH))
 (h1:dA t x.move→∀jd jc,T W (ML p m mb mc jd jc R) (K (.i 25)))
 (h2: ¬dA t x.move→1<x.fate→∀jd jc,T W (ML p m mb mc jd jc R) (K (.i (25+x.fate))))
 (h: ¬dA t x.move→¬1<x.fate→∀jd jc,T W (ML p (NJ m t i x).2 mb mc jd jc R) (K (.i (NJ m t i x).1))):
 T W (ML p m mb mc kb kc (Sep.pt r3 [.u 0,.u 0]::Sep.pt r2 (ai x.move)::Sep.pt r1 (ai t)::R)) (ae.j8 K (some ⟨p,0,none⟩) (i:Int) r1 r3 r2 b):=by
 have j1:∀b:Bool,b=decide (dA t x.move)→T W (ML p m mb mc kb kc (Sep.pt r3 [.u 0,.u 0]::Sep.pt r2 (ai x.move)::Sep.pt r1 (ai t)::R)) (ae.j1 K (some ⟨p,0,none⟩) (i:Int) r1 r3 r2 b):=fun b hb=>PS hm hx htf ht hb h1 h2 h;have FI:∀b:Bool,b=decide ((t.aH≠0∧t.aH≠x.move.aH)∨(t.ar≠0∧t.ar≠x.move.ar)∨(t.aJ≠0∧t.aJ≠x.move.aJ))→
  T W (ML p m mb mc kb kc (Sep.pt r3 [.u 0,.u 0]::Sep.pt r2 (ai x.move)::Sep.pt r1 (ai t)::R)) (ae.FI K (some ⟨p,0,none⟩) (i:Int) r1 r3 r2 b):=fun b hb=>by
  unfold ae.FI;cases b with
  |true=>
   have hc:=of_decide_eq_true hb.symm;refine j1 true (decide_eq_true ?_).symm;rcases hc with hc|hc|hc
   ·exact .inl hc
   ·exact .inr (.inl hc)
   ·exact .inr (.inr (.inl hc))
  |false=>
   have hc:=of_decide_eq_false hb.symm
   repeat' first|apply ww|apply wm;intro _|apply wb
   refine az (fun g1=>?_) (fun g1=>?_)
   ·have g1:=bne_iff_ne.1 g1
    repeat' first|apply ww|apply wm;intro _|apply wb
    refine j1 _ ?_;rw[adX,bne_iff_ne,decide_eq_true_eq];refine⟨fun hh=>.inr (.inr (.inr ⟨g1,hh⟩)),fun hh=>?_⟩;rcases hh with hh|hh|hh|hh
    ·exact absurd (.inl hh) hc
    ·exact absurd (.inr (.inl hh)) hc
    ·exact absurd (.inr (.inr hh)) hc
    ·exact hh.2
   ·have g1:t.code=0:=by simpa using g1
    refine j1 false (decide_eq_false (fun hh=>?_)).symm;rcases hh with hh|hh|hh|hh
    ·exact absurd (.inl hh) hc
    ·exact absurd (.inr (.inl hh)) hc
    ·exact absurd (.inr (.inr hh)) hc
    ·exact hh.1 g1
 have j9:∀b:Bool,b=decide ((t.aH≠0∧t.aH≠x.move.aH)∨(t.ar≠0∧t.ar≠x.move.ar))→
  T W (ML p m mb mc kb kc (Sep.pt r3 [.int .u64 0,.int .u64 0]::Sep.pt r2 (ai x.move)::Sep.pt r1 (ai t)::R)) (ae.j9 K (some ⟨p,0,none⟩) (i:Int) r1 r3 r2 b):=fun b hb=>by
  unfold ae.j9;cases b with
  |true=>
   have hc:=of_decide_eq_true hb.symm;refine FI true (decide_eq_true ?_).symm;rcases hc with hc|hc
   ·exact .inl hc
   ·exact .inr (.inl hc)
  |false=>
   have hc:=of_decide_eq_false hb.symm
   repeat' first|apply ww|apply wm;intro _|apply wb
   refine az (fun g1=>?_) (fun g1=>?_)
   ·have g1:=bne_iff_ne.1 g1
    repeat' first|apply ww|apply wm;intro _|apply wb
    refine FI _ ?_;rw[adX,bne_iff_ne,decide_eq_true_eq];refine⟨fun hh=>.inr (.inr ⟨g1,hh⟩),fun hh=>?_⟩;rcases hh with hh|hh|hh
    ·exact absurd (.inl hh) hc
    ·exact absurd (.inr hh) hc
    ·exact hh.2
   ·have g1:t.aJ=0:=by simpa using g1
    refine FI false (decide_eq_false (fun hh=>?_)).symm;rcases hh with hh|hh|hh
    ·exact absurd (.inl hh) hc
    ·exact absurd (.inr hh) hc
    ·exact hh.1 g1
 unfold ae.j8;cases b with
 |true=>exact j9 true (decide_eq_true (.inl (of_decide_eq_true hb.symm))).symm
 |false=>
  have hc:=of_decide_eq_false hb.symm
  repeat' first|apply ww|apply wm;intro _|apply wb
  by_cases g1:t.ar=0
  ·rw[decide_eq_true g1];refine j9 false (decide_eq_false (fun hh=>?_)).symm;rcases hh with hh|hh
   ·exact hc hh
   ·exact hh.1 g1
  ·rw[decide_eq_false g1]
   repeat' first|apply ww|apply wm;intro _|apply wb
   refine j9 _ ?_;by_cases g2:t.ar=x.move.ar
   ·rw[decide_eq_true g2];refine(decide_eq_false (fun hh=>?_)).symm;rcases hh with hh|hh
    ·exact hc hh
    ·exact hh.2 g2
   ·rw[decide_eq_false g2];exact(decide_eq_true (.inr ⟨g1,g2⟩)).symm
def Ts(hm:RM m)(ht:uY t)(h:∀jd jc,T W (ML p (m.mH t).2 mb mc jd jc R) (K (.i (m.mH t).1))):T W (ML p m mb mc kb kc R) (ae (some ⟨p,0,none⟩) (ai t) K):=by
 unfold ae;have rN:=hm.mC;have rL:=hm.many;have qz:=hm.af
 repeat' first|apply ww|apply wm;intro _|apply wb
 rename_i r1;refine ve ht ?_
 repeat' first|apply ww|apply wm;intro _|apply wb
 have FQ:m.name t.pending=none→∀r:Int,lO t (m.named t.id) none false false m.kept.length=r→∀jd jc,T W (ML p m mb mc jd jc R) (K (.int .i64 r)):=fun hn r he jd jc=>by
  have:=h jd jc;unfold Model.mH at this;rw[hn] at this;dsimp only at this;rw[he] at this;exact this
 have FP:∀i k,m.name t.pending=some i→m.kept[i]?=some k→∀r:Int,r≠0→lO t (m.named t.id) (some k) (m.closed k.move.aH i) (m.closed k.move.ar i) m.kept.length=r→∀jd jc,T W (ML p m mb mc jd jc R) (K (.i r)):=fun i k hi hk r hr he jd jc=>by
  have:=h jd jc;rw[Rd hi hk hr he] at this;exact this
 have py:∀r:Int,r≠0→(∀pd dC cC,lO t (m.named t.id) pd dC cC m.kept.length=r)→∀jd jc,T W (ML p m mb mc jd jc R) (K (.i r)):=fun r hr he=>by
  rcases nU (fun x:Kept=>decide (x.move.id=t.pending)) m.kept with⟨f1,f2,f3⟩|⟨i,x,f1,f2,f3,f4,f5⟩
  ·exact FQ f2 r (he _ _ _)
  ·exact FP i x f4 f1 r hr (he _ _ _)
 unfold lO at py FQ FP;refine az (fun g1=>?_) (fun g1=>?_)
 ·have g1:lE t≠0:=by simpa using g1
  have:=py _ g1 (fun _ _ _=>if_pos g1) kb kc;exact T.dp this
 have g1:lE t=0:=by simpa using g1
 simp only[if_neg (show ¬lE t≠0 from fun hh=>hh g1)] at py FQ FP;obtain⟨LN,YY⟩:=rV g1;have hf:0≤t.flags∧t.flags<1000000:=by omega
 repeat' first|apply ww|apply wm;intro _|apply wb
 refine rF hf ?_
 repeat' first|apply ww|apply wm;intro _|apply wb
 by_cases g2:iR t.flags
 rotate_left
 ·rw[decide_eq_false g2];have:=py 6 (by decide) (fun _ _ _=>if_pos g2) kb kc
  repeat' first|apply ww|apply wm;intro _|apply wb
  exact T.dp this
 rw[decide_eq_true g2];simp only[if_neg (show ¬ ¬iR t.flags from fun hh=>hh g2)] at py FQ FP
 repeat' first|apply ww|apply wm;intro _|apply wb
 refine T.LA ?_;refine DE (by omega) ?_
 repeat' first|apply ww|apply wm;intro _|apply wb
 have Jq:m.named t.id=m.kept.find? fun k=>decide (k.move.id=t.id):=rfl;rcases nU (fun x:Kept=>decide (x.move.id=t.id)) m.kept with⟨f1,f2,f3⟩|⟨i,x,f1,f2,f3,f4,f5⟩
 rotate_left
 ·rw[Jq,f3] at py;dsimp only at py;rw[f5];have HH:=(adC.1 f1).1;have hx:=hm.kept x (ad3 f1);refine lh (decide_eq_true (by omega)) ?_
  repeat' first|apply ww|apply wm;intro _|apply wb
  refine bV (b:=kb) ⟨by omega,by omega⟩ fun rb hb=>?_;rw[adB];subst hb;refine Mh hG f1 ?_;refine Ay hf ⟨hx.qv.1,by have:=hx.qv.2;omega⟩ ?_
  repeat' first|apply ww|apply wm;intro _|apply wb
  refine T.sub (py _ (oW _ _) (fun _ _ _=>rfl) (some ⟨rb,0,none⟩) kc) ?_;exact nZ
 rw[Jq,f1] at py FQ;have GV:m.named t.id=none:=by rw[Jq,f1]
 rw[GV] at FP;dsimp only at py FQ FP;rw[f3];refine fx (by decide) ?_
 repeat' first|apply ww|apply wm;intro _|apply wb
 refine DE (by omega) ?_
 repeat' first|apply ww|apply wm;intro _|apply wb
 rcases nU (fun x:Kept=>decide (x.move.id=t.pending)) m.kept with⟨d1,d2,d3⟩|⟨i,x,d1,d2,d3,d4,d5⟩
 ·rw[d3];refine lh (by decide) ?_;refine T.sub (FQ d2 23 rfl kb kc) ?_;exact nZ
 have py:=FP i x d4 d1;clear FQ FP;have HH:=(adC.1 d1).1;have mQ:=ad3 d1;have hx:=hm.kept x mQ;rw[d5];refine fx (decide_eq_false (by omega)) ?_
 repeat' first|apply ww|apply wm;intro _|apply wb
 refine bV (b:=kb) ⟨by omega,by omega⟩ fun rb hb=>?_;rw[adB];subst hb;refine S6 ?_;refine Mg hG d1 ?_
 repeat' first|apply ww|apply wm;intro _|apply wb
 rename_i r2 r3;have hxf:0≤x.move.flags∧x.move.flags<1000000:=⟨hx.rG.1,by have:=hx.rG.2;omega⟩;refine jo hxf (by decide) ?_
 repeat' first|apply ww|apply wm;intro _|apply wb
 by_cases g3:has x.move.flags 2
 rotate_left
 ·rw[if_pos g3] at py;rw[decide_eq_false g3]
  repeat' first|apply ww|apply wm;intro _|apply wb
  refine T.sub (py 24 (by decide) rfl (some ⟨rb,0,none⟩) kc) ?_;exact nZ
 rw[if_neg (fun hh=>hh g3)] at py;rw[decide_eq_true g3]
 repeat' first|apply ww|apply wm;intro _|apply wb
 have fin:∀b:Bool,b=decide (t.aH≠0∧t.aH≠x.move.aH)→T W (Sep.pt r3 [.int .u64 0,.int .u64 0]::Sep.pt r2 (ai x.move)::ML p m mb mc (some ⟨rb,0,none⟩) kc (Sep.pt r1 (ai t)::R)) (ae.j8 K (some ⟨p,0,none⟩) (i:Int) r1 r3 r2 b):=fun b hb=>by
  refine T.perm (L:=ML p m mb mc (some ⟨rb,0,none⟩) kc (Sep.pt r3 [.u 0,.u 0]::Sep.pt r2 (ai x.move)::Sep.pt r1 (ai t)::R)) ?_ (adJ (l₁:=[Sep.pt r3 [.u 0,.u 0],Sep.pt r2 (ai x.move)]) (l₂:=[_,_,_])|>.append_right _);refine PR hm d1 hf ht.aC hb (fun hn=>py 25 (by decide) (if_pos hn)) (fun hn QB=>py (25+x.fate) (by omega) (by rw[if_neg hn,if_pos QB])) (fun hn QB jd jc=>?_);have:=h jd jc;rw[XP g1 g2 GV d4 d1 g3 hn QB] at this;exact this
 by_cases g4:t.aH=0
 ·rw[decide_eq_true g4];exact fin false (decide_eq_false (fun hh=>hh.1 g4)).symm
 ·rw[decide_eq_false g4]
  repeat' first|apply ww|apply wm;intro _|apply wb
  refine fin _ ?_;by_cases g5:t.aH=x.move.aH
  ·rw[decide_eq_true g5];exact(decide_eq_false (fun hh=>hh.2 g5)).symm
  ·rw[decide_eq_false g5];exact(decide_eq_true ⟨g4,g5⟩).symm
end
inductive It where
 |a(x:aS)
 |t(x:Move)
def vB:It→LV
 | .a x=>.bool true::(ak x++ai zT)
 | .t x=>.bool false::(ak zA++ai x)
def se(m:Model):It→Int×Model
 | .a x=>m.make x
 | .t x=>m.oF x
def vg:It→Bool
 | .a x=>wu x
 | .t x=>wq x
def Iq:It→Prop
 | .a x=>vy x
 | .t x=>uY x
def Jl(x:It):(vB x).length=31:=by cases x<;>rfl
instance{x:aS}{t:Move}{b:Value}:Gt (b::(ak x++ai t)) 13 (.i x.flags):=⟨rfl⟩
instance{x:aS}{t:Move}{b:Value}:Gt (b::(ak x++ai t)) 28 (.i t.flags):=⟨rfl⟩
def Jk(x:It):∀v∈vB x,v.oneCell'=true:=fun v hv=>by
 cases x with
 |a x=>
  rcases aeS.1 hv with h|h
  ·subst h;rfl
  ·rcases aee.1 h with h|h
   ·exact gn _ v h
   ·exact ml _ v h
 |t x=>
  rcases aeS.1 hv with h|h
  ·subst h;rfl
  ·rcases aee.1 h with h|h
   ·exact gn _ v h
   ·exact ml _ v h
instance{x:aS}{t:Move}{b:Value}:Sub (b::(ak x++ai t)) 1 14 (ak x):=⟨rfl,fun j v h=>by
 rw[Nat.add_comm 1 j,adR,adY (adC.1 h).1];exact h⟩
instance{x:aS}{t:Move}{b:Value}:Sub (b::(ak x++ai t)) 15 16 (ai t):=⟨rfl,fun j v h=>by
 have hl:(ak x).length=14:=rfl
 rw[show 15+j=14+j+1 by omega,adR,aea (by omega),hl,Nat.add_sub_cancel_left];exact h⟩
def RM.se{m:Model}{x:It}(h:RM m)(hx:Iq x):RM (se m x).2:=by
 cases x with
 |a x=>exact h.make hx
 |t x=>exact h.oF hx
def ER(n:Int):(n.tmod 2!=0)=decide (n%2=1):=by
 rw[adX,bne_iff_ne,decide_eq_true_eq];rcases Int.le_total 0 n with h|h
 ·rw[aei h];omega
 ·obtain⟨k,rfl⟩:∃k:Int,n= -k:=⟨-n,by omega⟩;rw[Int.neg_tmod,aei (by omega)];omega
section
variable {W:World} {L R:LH} {K:VK} {X:WK} {p:Nat} {m:Model} {mb kb:OA} {mc kc:Nat} {x:It}
def Fh(h:T W L (K (.bool (vg x)))):T W L (fM (vB x) K):=by
 unfold fM;cases x with
 |a x=>
  rw[show vB (It.a x)=.bool true::(ak x++ai zT) from rfl]
  repeat' first|apply ww|apply wm;intro _|apply wb
  refine c9 (by decide) ?_;rw[ER];exact T.dp h
 |t x=>
  rw[show vB (It.t x)=.bool false::(ak zA++ai x) from rfl]
  repeat' first|apply ww|apply wm;intro _|apply wb
  refine c9 (by decide) ?_;rw[ER];exact T.dp h
def PW(hm:RM m)(hx:Iq x)(h:∀nT nS jd jc,T W (ML p (se m x).2 nT nS jd jc R) (K (.i (se m x).1))):T W (ML p m mb mc kb kc R) (dT (some ⟨p,0,none⟩) (vB x) K):=by
 unfold dT dT.j1;cases x with
 |a x=>
  rw[show vB (It.a x)=.bool true::(ak x++ai zT) from rfl]
  repeat' first|apply ww|apply wm;intro _|apply wb
  refine T.LA ?_;refine PQ hm hx fun nT nS=>?_
  repeat' first|apply ww|apply wm;intro _|apply wb
  refine T.sub (h nT nS kb kc) ?_
  repeat (first|exact adP.refl _|apply adP.cons_cons|apply adP.cons)
 |t x=>
  rw[show vB (It.t x)=.bool false::(ak zA++ai x) from rfl]
  repeat' first|apply ww|apply wm;intro _|apply wb
  refine ve hx ?_;rw[show se m (It.t x)=m.oF x from rfl] at h;unfold Model.oF at h
  repeat' first|apply ww|apply wm;intro _|apply wb
  refine az (fun g1=>?_) (fun g1=>?_)
  ·have g1:lE x=0:=by simpa using g1
   obtain⟨LN,YY⟩:=rV g1
   repeat' first|apply ww|apply wm;intro _|apply wb
   refine rF (by omega) ?_
   repeat' first|apply ww|apply wm;intro _|apply wb
   by_cases g2:iR x.flags
   ·rw[decide_eq_true g2];rw[if_pos ⟨g1,g2⟩] at h
    repeat' first|apply ww|apply wm;intro _|apply wb
    refine T.LA ?_;refine Ts hm hx fun jd jc=>?_
    repeat' first|apply ww|apply wm;intro _|apply wb
    refine T.sub (h mb mc jd jc) ?_;exact nZ
   ·rw[decide_eq_false g2];rw[if_neg (fun hh=>g2 hh.2)] at h
    repeat' first|apply ww|apply wm;intro _|apply wb
    refine T.LA ?_;refine I0 hm hx fun jd jc=>?_
    repeat' first|apply ww|apply wm;intro _|apply wb
    refine T.sub (h mb mc jd jc) ?_;exact nZ
  ·have g1: ¬lE x=0:=by simpa using g1
   rw[if_neg (fun hh=>g1 hh.1)] at h
   repeat' first|apply ww|apply wm;intro _|apply wb
   refine T.LA ?_;refine I0 hm hx fun jd jc=>?_
   repeat' first|apply ww|apply wm;intro _|apply wb
   refine T.sub (h mb mc jd jc) ?_;exact nZ
def BW{s:OA}{c:Nat}{l:List aS}[hh:Has R L](hr:oz W R ak 14 s l)(hl:l.length≤1000000)
 (h:∀b c,T W (own b l.length c 31 ((l.map It.a).flatMap vB)::L) (K (.l b l.length c))):T W L (eV s l.length c K):=by
 unfold eV;refine gB (e:=31) ?_;intro w ku;refine⟨fun vv w=>∃(i:Nat)(b:OA)(c2:Nat)(out:List It),i≤l.length∧out=(l.take i).map It.a∧vv=[.l none 0 0,.l b i c2,.l s l.length c,.i (l.length:Int),.i (i:Int)]∧St W w (own b i c2 31 (out.flatMap vB)::L),
  fun vs _=>match vs with|[_,_,_,_,.int _ d]=>l.length-d.toNat|_=>0,⟨0,none,0,[],adK _,rfl,rfl,ku⟩,?_⟩
 rintro uF qg uE b i c2 yV yg yU n1 n2 w2 ⟨i0,b0,c0,out,hi,tg,e,gN⟩;cases e
 refine T.at ?_ gN;have e5:adx.wrap ((i:Int)+1)=((i+1:Nat):Int):=by rw[ah (by omega)];omega
 refine az (fun g1=>?_) (fun g1=>?_)
 ·have a8:i<l.length:=by have:=of_decide_eq_true g1;omega
  have gx:=adA a8;generalize l[i]=x at gx;refine kV hr ⟨by omega,by omega⟩ rfl fun a ha=>?_;rw[adB];refine kT hr ha gx (gL x) ?_
  repeat' first|apply ww|apply wm;intro _|apply wb
  refine jm (g:=vB) (l:=out) (x:=It.a x) (by rw[adV];rfl) rfl rfl (by omega) (by omega) (Jk _) fun b' c'=>?_;rw[e5];refine T.drop (T.sub (M:=own b' (i+1) c' 31 ((out++[It.a x]).flatMap vB)::L) (fun w3 h3=>⟨⟨i+1,b',c',out++[It.a x],a8,?_,rfl,h3⟩,by show l.length-((i+1:Nat):Int).toNat<l.length-(i:Int).toNat;omega⟩) (by repeat (first|exact adP.refl _|apply adP.cons_cons|apply adP.cons)));rw[adT,gx,ad8,tg];rfl
 ·have iM:i=l.length:=by have:=of_decide_eq_false g1;omega
  subst iM;rw[adN] at tg;subst tg;exact h _ _
def As{s:OA}{c:Nat}{l:List Move}[hh:Has R L](hr:oz W R ai 16 s l)(hl:l.length≤1000000)
 (h:∀b c,T W (own b l.length c 31 ((l.map It.t).flatMap vB)::L) (K (.l b l.length c))):T W L (dZ s l.length c K):=by
 unfold dZ;refine gB (e:=31) ?_;intro w ku;refine⟨fun vv w=>∃(i:Nat)(b:OA)(c2:Nat)(out:List It),i≤l.length∧out=(l.take i).map It.t∧vv=[.l none 0 0,.l b i c2,.l s l.length c,.i (l.length:Int),.i (i:Int)]∧St W w (own b i c2 31 (out.flatMap vB)::L),
  fun vs _=>match vs with|[_,_,_,_,.int _ d]=>l.length-d.toNat|_=>0,⟨0,none,0,[],adK _,rfl,rfl,ku⟩,?_⟩
 rintro uF qg uE b i c2 yV yg yU n1 n2 w2 ⟨i0,b0,c0,out,hi,tg,e,gN⟩;cases e
 refine T.at ?_ gN;have e5:adx.wrap ((i:Int)+1)=((i+1:Nat):Int):=by rw[ah (by omega)];omega
 refine az (fun g1=>?_) (fun g1=>?_)
 ·have a8:i<l.length:=by have:=of_decide_eq_true g1;omega
  have gx:=adA a8;generalize l[i]=x at gx;refine kV hr ⟨by omega,by omega⟩ rfl fun a ha=>?_;rw[adB];refine kT hr ha gx (rH x) ?_
  repeat' first|apply ww|apply wm;intro _|apply wb
  refine jm (g:=vB) (l:=out) (x:=It.t x) (by rw[adV,adV];rfl) rfl rfl (by omega) (by omega) (Jk _) fun b' c'=>?_;rw[e5];refine T.drop (T.sub (M:=own b' (i+1) c' 31 ((out++[It.t x]).flatMap vB)::L) (fun w3 h3=>⟨⟨i+1,b',c',out++[It.t x],a8,?_,rfl,h3⟩,by show l.length-((i+1:Nat):Int).toNat<l.length-(i:Int).toNat;omega⟩) (by repeat (first|exact adP.refl _|apply adP.cons_cons|apply adP.cons)));rw[adT,gx,ad8,tg];rfl
 ·have iM:i=l.length:=by have:=of_decide_eq_false g1;omega
  subst iM;rw[adN] at tg;subst tg;exact h _ _
end
def Bk(p:Nat)(m:Model)(mb:OA)(mc:Nat)(kb:OA)(kc:Nat)(R:LH)(p2:Nat)(m':Model)(nT:OA)(nS:Nat)(jd:OA)(jc:Nat)(R':LH):Prop:=
 (R'=R∧p2=p∧m'=m∧nT=mb∧nS=mc∧jd=kb∧jc=kc)∨R'=ML p m mb mc kb kc R
def MU{n:Nat}{o:Option (Nat×Int)}{q:Nat}(hq:q<n):(jy n o)[q]?=some (match o with|none=>0|some (i,c)=>if q=i then c else 1):=by
 unfold jy;cases o with
 |none=>simp[hq]
 |some e=>
  obtain⟨i,c⟩:=e;dsimp only;rw[ad7];by_cases h:i=q
  ·subst h;rw[if_pos rfl,if_pos (by simpa using hq),if_pos rfl]
  ·rw[if_neg h,if_neg (fun hh=>h hh.symm)];simp[hq]
def Ir(x:Int):∀v∈I1 x,v.oneCell'=true:=fun v hv=>by simp[I1] at hv;subst hv;rfl
section
variable {W:World} {L R:LH} {K:VK} {X:WK} {p:Nat} {m:Model} {mb kb:OA} {mc kc:Nat} {x:It}
def Ot(W:World)(R:LH)(p:Nat)(m:Model)(mb:OA)(mc:Nat)(kb:OA)(kc:Nat)(l:List It)(lb:OA)(lc:Nat)(vv:LV)(w:World):Prop:=
 ∃(at_ fuel:Nat)(m':Model)(done:List Int)(p2:Nat)(nT:OA)(nS:Nat)(jd:OA)(jc:Nat)(ob:OA)(oc:Nat)(R':LH),at_≤l.length∧done.length=at_∧l.length≤fuel+at_∧
  fX se vg l.length m l=(done++(fX se vg fuel m' (l.drop at_)).1,(fX se vg fuel m' (l.drop at_)).2)∧RM m'∧Bk p m mb mc kb kc R p2 m' nT nS jd jc R'∧
  vv=[.p (some ⟨p2,0,none⟩),.l none 0 0,.p none,.l ob at_ oc,.i (at_:Int)]∧
  St W w (ML p2 m' nT nS jd jc (own ob at_ oc 1 (done.flatMap I1)::own lb l.length lc 31 (l.flatMap vB)::R'))
def VT(n:Nat)(vs:LV)(_:World):Nat:=match vs with|[_,_,_,_,.int _ d]=>n-d.toNat|_=>0
def DD{w2:World}{l:List It}{lb:OA}{lc:Nat}{at_ fuel n:Nat}{m' mN:Model}{done:List Int}{p2 p6:Nat}{nT jd nb nk ob:OA}{nS jc nc MZ oc:Nat}{R':LH}{o:Option (Nat×Int)}{bad code:Int}
 (hl:l.length≤1000)(hn:0<n)(vE:at_+n≤l.length)(wC:done.length=at_)(LL:l.length≤fuel+(at_+n))(ho:(o=none∧bad<0)∨∃i,o=some (i,code)∧i<n∧bad=((at_+i:Nat):Int))(GW:RM m')(Sa:RM mN)
 (zx:Bk p m mb mc kb kc R p2 m' nT nS jd jc R')
 (mn:fX se vg l.length m l=(done++jy n o++(fX se vg fuel (if o=none then mN else m') (l.drop (at_+n))).1,(fX se vg fuel (if o=none then mN else m') (l.drop (at_+n))).2)):
 T W (ML p6 mN nb nc nk MZ (ML p2 m' nT nS jd jc (own ob at_ oc 1 (done.flatMap I1)::own lb l.length lc 31 (l.flatMap vB)::R')))
   (aT.j3 K (Ot W R p m mb mc kb kc l lb lc) (VT l.length) (some ⟨p2,0,none⟩) none 0 0 none ob at_ oc (at_:Int) w2 (some ⟨p2,0,none⟩) none 0 0 none ob at_ oc (at_:Int) ((at_+n-1:Nat):Int) bad code (some ⟨p6,0,none⟩)):=by
 unfold aT.j3;intro w ku;refine⟨fun vv w=>∃(q:Nat)(b:OA)(c:Nat),q≤n∧vv=[.p (some ⟨p2,0,none⟩),.l none 0 0,.p none,.l b (at_+q) c,.i (at_:Int),.i ((at_+n-1:Nat):Int),.i bad,.i code,.p (some ⟨p6,0,none⟩),.i ((at_+q:Nat):Int)]∧
  St W w (ML p6 mN nb nc nk MZ (ML p2 m' nT nS jd jc (own b (at_+q) c 1 ((done++(jy n o).take q).flatMap I1)::own lb l.length lc 31 (l.flatMap vB)::R'))),
  fun vs _=>match vs with|[_,_,_,_,_,_,_,_,_,.int _ d]=>at_+n-d.toNat|_=>0,⟨0,ob,oc,adK _,rfl,by rw[ae0,adV];exact ku⟩,?_⟩
 rintro p10 ZE sn8 ZB p11 b sn9 c Vu Vt Vs n14 p12 n15 w4 ⟨q,b0,c0,hq,e,th⟩;cases e
 refine T.at ?_ th;have e5:adx.wrap (((at_+q:Nat):Int)+1)=((at_+(q+1):Nat):Int):=by rw[ah (by omega)];omega
 refine az (fun g1=>?_) (fun g1=>?_)
 ·have a8:q<n:=by have:=of_decide_eq_true g1;omega
  have wA:=MU (o:=o) a8;have oQ:(jy n o).take (q+1)=(jy n o).take q++[match o with|none=>0|some (i,c)=>if q=i then c else 1]:=by rw[adT,wA];rfl
  rcases ho with⟨rfl,hb⟩|⟨i,rfl,hi,rfl⟩
  ·refine lh (decide_eq_true hb) ?_;refine c9 ⟨rfl,trivial⟩ ?_;refine qD fun r1=>?_;refine jm (g:=I1) (l:=done++(jy n _).take q) (x:=(0:Int)) rfl rfl rfl (by omega) (by omega) (Ir _) fun b' c'=>?_;rw[e5];refine T.drop fun w5 h5=>⟨⟨q+1,b',c',a8,rfl,by rw[oQ,←adI];exact h5⟩,by show at_+n-((at_+(q+1):Nat):Int).toNat<at_+n-((at_+q:Nat):Int).toNat;omega⟩
  ·refine fx (decide_eq_false (by omega)) ?_;by_cases hqi:q=i
   ·subst hqi;refine lh (by simp) ?_;dsimp only at oQ;rw[if_pos rfl] at oQ;refine c9 ⟨rfl,trivial⟩ ?_;refine qD fun r1=>?_;refine jm (g:=I1) (l:=done++(jy n _).take q) (x:=code) rfl rfl rfl (by omega) (by omega) (Ir _) fun b' c'=>?_;rw[e5];refine T.drop fun w5 h5=>⟨⟨q+1,b',c',a8,rfl,by rw[oQ,←adI];exact h5⟩,by show at_+n-((at_+(q+1):Nat):Int).toNat<at_+n-((at_+q:Nat):Int).toNat;omega⟩
   ·refine fx (by simp;omega) ?_;dsimp only at oQ;rw[if_neg hqi] at oQ;refine c9 ⟨rfl,trivial⟩ ?_;refine qD fun r1=>?_;refine jm (g:=I1) (l:=done++(jy n _).take q) (x:=(1:Int)) rfl rfl rfl (by omega) (by omega) (Ir _) fun b' c'=>?_;rw[e5];refine T.drop fun w5 h5=>⟨⟨q+1,b',c',a8,rfl,by rw[oQ,←adI];exact h5⟩,by show at_+n-((at_+(q+1):Nat):Int).toNat<at_+n-((at_+q:Nat):Int).toNat;omega⟩
 ·have iM:q=n:=by have:=of_decide_eq_false g1;omega
  subst iM;rw[adS (Nat.le_of_eq (kq q o))];have e6:adx.wrap (((at_+q-1:Nat):Int)+1)=((at_+q:Nat):Int):=by rw[ah (by omega)];omega
  rw[e6];rcases ho with⟨rfl,hb⟩|⟨i,rfl,hi,rfl⟩
  ·refine lh (decide_eq_true hb) ?_;rw[if_pos rfl] at mn;have fin:∀Zk,Bk p m mb mc kb kc R p6 mN nb nc nk MZ Zk→T W (ML p6 mN nb nc nk MZ (own b (at_+q) c 1 ((done++jy q none).flatMap I1)::own lb l.length lc 31 (l.flatMap vB)::Zk))
                                       (fun w8=>Ot W R p m mb mc kb kc l lb lc [.p (some ⟨p6,0,none⟩),.l none 0 0,.p none,.l b (at_+q) c,.i ((at_+q:Nat):Int)] w8∧VT l.length [.p (some ⟨p6,0,none⟩),.l none 0 0,.p none,.l b (at_+q) c,.i ((at_+q:Nat):Int)] w8<VT l.length [.p (some ⟨p2,0,none⟩),.l none 0 0,.p none,.l ob at_ oc,.i (at_:Int)] w2):=fun Zk aaM w8 h8=>by
    refine⟨⟨at_+q,fuel,mN,done++jy q none,p6,nb,nc,nk,MZ,b,c,Zk,vE,by rw[adD,kq];omega,LL,mn,Sa,aaM,rfl,h8⟩,?_⟩;show l.length-((at_+q:Nat):Int).toNat<l.length-(at_:Int).toNat;omega
   rcases zx with⟨rfl,rfl,rfl,rfl,rfl,rfl,rfl⟩|rfl
   ·refine T.perm (fin _ (.inr rfl)) ?_;exact(adJ (l₁:=[Sep.pt p2 (yY m' nT nS jd jc),own nT m'.made.length nS 14 (m'.made.flatMap ak),own jd m'.kept.length jc 33 (m'.kept.flatMap aM)]) (l₂:=[_,_])|>.append_right R').append_left [_,_,_]
   ·refine T.sub (fin _ (.inr rfl)) ?_;exact nZ
  ·refine fx (decide_eq_false (by omega)) ?_;rw[if_neg (by simp)] at mn;refine T.drop (T.drop (T.drop fun w8 h8=>?_));refine⟨⟨at_+q,fuel,m',done++jy q (some (i,code)),p2,nT,nS,jd,jc,b,c,R',vE,by rw[adD,kq];omega,LL,mn,GW,zx,rfl,h8⟩,?_⟩;show l.length-((at_+q:Nat):Int).toNat<l.length-(at_:Int).toNat;omega
def IZ{w2:World}{l:List It}{lb:OA}{lc:Nat}{at_ fuel n:Nat}{m':Model}{done:List Int}{p2:Nat}{nT jd ob:OA}{nS jc oc:Nat}{R':LH}{bad code:Int}
 (ik:∀x∈l,Iq x)(hl:l.length≤1000)(hn:0<n)(vE:at_+n≤l.length)(wC:done.length=at_)(LL:l.length≤fuel+(at_+n))(GW:RM m')
 (zx:Bk p m mb mc kb kc R p2 m' nT nS jd jc R')
 (DY:bu vg (l.drop at_)=(n,decide (bad<0)))(uK:(bad= -1∧code=0)∨(bad=((at_+n-1:Nat):Int)∧code=2∧at_+n=l.length))
 (mn:fX se vg l.length m l=(done++(fX se vg (fuel+1) m' (l.drop at_)).1,(fX se vg (fuel+1) m' (l.drop at_)).2)):
 T W (ML p2 m' nT nS jd jc (own ob at_ oc 1 (done.flatMap I1)::own lb l.length lc 31 (l.flatMap vB)::R'))
   (aT.j2 K (some ⟨p2,0,none⟩) none 0 0 none ob at_ oc (at_:Int) lb l.length (Ot W R p m mb mc kb kc l lb lc) (VT l.length) (some ⟨p2,0,none⟩) none 0 0 none ob at_ oc (at_:Int) w2 ((at_+n-1:Nat):Int) bad code):=by
 unfold aT.j2 aT.j4;have hmf:=GW.mC;have hmm:=GW.many;refine DG (by omega) (by omega) fun p6 nb0 nc0 nk0 ZN=>?_
 repeat' first|apply ww|apply wm;intro _|apply wb
 have ji:l.drop at_≠[]:=fun hh=>by have:=congrArg List.length hh;rw[adM] at this;simp at this;omega
 have fy:=xh (f:=se) (lk:=vg) (n:=fuel) (s:=m') ji;have VH:(l.drop at_).drop n=l.drop (at_+n):=aeK;rw[DY] at fy;dsimp only at fy;rw[VH] at fy;intro w ku;refine⟨fun vv w=>∃(i:Nat)(bd cd:Int)(mN:Model)(nb:OA)(nc:Nat)(nk:OA)(MZ:Nat),i≤n∧RM mN∧
                                                                                                      ((bd<0∧bad<0∧gU se m' ((l.drop at_).take i) 0=(none,mN))∨(∃q s,bd=((at_+q:Nat):Int)∧q<n∧bad<0∧gU se m' ((l.drop at_).take n) 0=(some (q,cd),s))∨(bd=bad∧cd=code∧¬bad<0))∧
                                                                                                      vv=[.p (some ⟨p2,0,none⟩),.l none 0 0,.p none,.l ob at_ oc,.i (at_:Int),.i ((at_+n-1:Nat):Int),.i bd,.i cd,.p (some ⟨p6,0,none⟩),.i ((at_+i:Nat):Int)]∧
                                                                                                      St W w (ML p6 mN nb nc nk MZ (ML p2 m' nT nS jd jc (own ob at_ oc 1 (done.flatMap I1)::own lb l.length lc 31 (l.flatMap vB)::R'))),
  fun vs _=>match vs with|[_,_,_,_,_,_,_,_,_,.int _ d]=>at_+n-d.toNat|_=>0,⟨0,bad,code,m',nb0,nc0,nk0,ZN,adK _,GW,?_,rfl,ku⟩,?_⟩
 ·by_cases hb:bad<0
  ·exact .inl ⟨hb,hb,rfl⟩
  ·exact .inr (.inr ⟨rfl,rfl,hb⟩)
 rintro p13 ac' ac4 ac7 p14 ob1 EB oc1 uP n17 bd cd p15 n20 w11 ⟨i,bd0,cd0,mN,nb,nc,nk,MZ,hi,Sa,qz,e,gN⟩;cases e
 refine T.at ?_ gN;have e5:adx.wrap (((at_+i:Nat):Int)+1)=((at_+(i+1):Nat):Int):=by rw[ah (by omega)];omega
 have leave:(i=n∨¬bd<0)→T W (ML p6 mN nb nc nk MZ (ML p2 m' nT nS jd jc (own ob at_ oc 1 (done.flatMap I1)::own lb l.length lc 31 (l.flatMap vB)::R')))
  (aT.j3 K (Ot W R p m mb mc kb kc l lb lc) (VT l.length) (some ⟨p2,0,none⟩) none 0 0 none ob at_ oc (at_:Int) w2 (some ⟨p2,0,none⟩) none 0 0 none ob at_ oc (at_:Int) ((at_+n-1:Nat):Int) bd cd (some ⟨p6,0,none⟩)):=fun Sb=>by
  rcases qz with⟨h1,h2,h3⟩|⟨q,s,h1,h2,h3,h4⟩|⟨h1,h2,h3⟩
  ·have A5:i=n:=by rcases Sb with hh|hh;exact hh;exact absurd h1 hh
   subst A5;refine DD (fuel:=fuel) (o:=none) hl hn vE wC LL (.inl ⟨rfl,h1⟩) GW Sa zx ?_;rw[if_neg (by rw[decide_eq_true h2];decide),h3] at fy;dsimp only at fy;rw[if_pos rfl,mn,fy];simp
  ·refine DD (fuel:=fuel) (o:=some (q,cd)) hl hn vE wC LL (.inr ⟨q,rfl,h2,h1⟩) GW Sa zx ?_;rw[if_neg (by rw[decide_eq_true h3];decide),h4] at fy;dsimp only at fy;rw[if_neg (by simp),mn,fy];simp
  ·subst h1 h2;rcases uK with⟨hb,_⟩|⟨hb,hc,KR⟩
   ·omega
   refine DD (fuel:=fuel) (o:=some (n-1,cd)) hl hn vE wC LL (.inr ⟨n-1,rfl,by omega,by rw[hb];omega⟩) GW Sa zx ?_;rw[if_pos (by rw[decide_eq_false h3])] at fy;rw[if_neg (by simp),mn,fy,hc];rw[show l.drop (at_+n)=[] from aeh (by omega),rE];simp
 by_cases Sb:i=n∨¬bd<0
 ·have:=leave Sb;refine az (fun g1=>?_) (fun g1=>?_)
  ·have g1:=of_decide_eq_true g1;have hb: ¬bd<0:=by rcases Sb with hh|hh;omega;exact hh
   rw[decide_eq_false hb];exact this
  ·exact this
 ·have a8:i<n:=Decidable.byContradiction fun hh=>Sb (.inl (by omega));have hb:bd<0:=Decidable.byContradiction fun hh=>Sb (.inr hh);have Ey:bad<0∧gU se m' ((l.drop at_).take i) 0=(none,mN):=by
   rcases qz with⟨h1,h2,h3⟩|⟨q,s,h1,h2,h3,h4⟩|⟨h1,h2,h3⟩
   ·exact⟨h2,h3⟩
   ·omega
   ·omega
  have gx:=adA (show at_+i<l.length by omega);have DT:=ik _ (adZ (show at_+i<l.length by omega));generalize l[at_+i]=x at gx DT;have XK:(l.drop at_)[i]?=some x:=by rw[aeQ];exact gx
  have oQ:(l.drop at_).take (i+1)=(l.drop at_).take i++[x]:=by rw[adT,XK];rfl
  have WO:((l.drop at_).take i).length=i:=by rw[adF,adM];omega
  refine lh (decide_eq_true (by omega)) ?_;rw[decide_eq_true hb];refine tw ?_;refine bV (b:=lb) ⟨by omega,by omega⟩ fun rb TV=>?_;rw[adB];subst TV;refine dV (g:=vB) Jl gx ?_;refine PW Sa DT fun nb' nc' nk' Wt=>?_
  repeat' first|apply ww|apply wm;intro _|apply wb
  rw[e5];refine az (fun g2=>?_) (fun g2=>?_)
  ·have g2:(se mN x).1≠0:=by simpa using g2
   refine fun w3 h3=>⟨⟨i+1,_,(se mN x).1,_,nb',nc',nk',Wt,a8,Sa.se DT,.inr (.inl ⟨i,mN,rfl,a8,Ey.1,?_⟩),rfl,h3⟩,by show at_+n-((at_+(i+1):Nat):Int).toNat<at_+n-((at_+i:Nat):Int).toNat;omega⟩;have qk:(l.drop at_).take n=(l.drop at_).take i++x::((l.drop at_).take n).drop (i+1):=by
    have e1:((l.drop at_).take n)[i]?=some x:=by rw[List.getElem?_take_of_lt a8];exact XK
    obtain⟨HH,VD⟩:=adC.1 e1;have e2:=ad5 i ((l.drop at_).take n);rw[aef HH,VD,ae9,ae2 (by omega)] at e2;exact e2.symm
   rw[qk,oU _ _ _ _ _ Ey.2,gU,if_pos g2,WO,adE]
  ·have g2:(se mN x).1=0:=by simpa using g2
   refine fun w3 h3=>⟨⟨i+1,bd,_,_,nb',nc',nk',Wt,a8,Sa.se DT,.inl ⟨hb,Ey.1,?_⟩,rfl,h3⟩,by show at_+n-((at_+(i+1):Nat):Int).toNat<at_+n-((at_+i:Nat):Int).toNat;omega⟩;rw[oQ,oU _ _ _ _ _ Ey.2,gU,if_neg (by omega)]
   rfl
def MK{l:List It}{lb:OA}{lc:Nat}(hm:RM m)(ik:∀x∈l,Iq x)(hl:l.length≤1000)
 (h:∀p2 nT nS jd jc ob oc R',Bk p m mb mc kb kc R p2 (fX se vg l.length m l).2 nT nS jd jc R'→RM (fX se vg l.length m l).2→(fX se vg l.length m l).1.length=l.length→
  T W (ML p2 (fX se vg l.length m l).2 nT nS jd jc (own ob l.length oc 1 ((fX se vg l.length m l).1.flatMap I1)::own lb l.length lc 31 (l.flatMap vB)::R')) (K (.tuple ⟨[.l ob l.length oc,.p (some ⟨p2,0,none⟩)]⟩))):
 T W (ML p m mb mc kb kc (own lb l.length lc 31 (l.flatMap vB)::R)) (aT (some ⟨p,0,none⟩) lb l.length lc K):=by
 unfold aT aT.j1;refine gB (e:=1) ?_;refine T.EN ?_;intro w ku;refine⟨Ot W R p m mb mc kb kc l lb lc,VT l.length,⟨0,l.length,m,[],p,mb,mc,kb,kc,none,0,R,adK _,rfl,by omega,by simp,hm,.inl ⟨rfl,rfl,rfl,rfl,rfl,rfl,rfl⟩,rfl,ku⟩,?_⟩;rintro p2v uF qg uE p3 ob at_ oc n1 w2 ⟨at0,fuel,m',done,p2,nT,nS,jd,jc,ob0,oc0,R',vE,wC,LL,mn,GW,zx,e,gN⟩;cases e
 refine T.at ?_ gN;refine az (fun g1=>?_) (fun g1=>?_)
 ·have a8:at_<l.length:=by have:=of_decide_eq_true g1;omega
  intro w3 qL;refine⟨fun vv w=>∃e:Nat,at_≤e∧e≤l.length∧(∀j y,j<e-at_→(l.drop at_)[j]?=some y→vg y=true)∧vv=[.p (some ⟨p2,0,none⟩),.l none 0 0,.p none,.l ob at_ oc,.i (at_:Int),.i (e:Int)]∧
   St W w (ML p2 m' nT nS jd jc (own ob at_ oc 1 (done.flatMap I1)::own lb l.length lc 31 (l.flatMap vB)::R')),
   fun vs _=>match vs with|[_,_,_,_,_,.int _ d]=>l.length-d.toNat|_=>0,⟨at_,adG _,vE,(fun j y hj=>by omega),rfl,qL⟩,?_⟩
  rintro p16 ac9 ac3 ac6 p17 ac8 ac2 ac5 n22 n23 w15 ⟨en,adr,adq,hU,e,Jo⟩;cases e
  refine T.at ?_ Jo;obtain⟨fuel,rfl⟩:∃k,fuel=k+1:=⟨fuel-1,by omega⟩;refine az (fun g2=>?_) (fun g2=>?_)
  ·have rM:en<l.length:=by have:=of_decide_eq_true g2;omega
   have gx:=adA rM;generalize l[en]=x at gx;have XK:(l.drop at_)[en-at_]?=some x:=by rw[aeQ,show at_+(en-at_)=en by omega];exact gx
   refine bV (b:=lb) ⟨by omega,by omega⟩ fun rb TV=>?_;rw[adB];subst TV;refine dV (g:=vB) Jl gx ?_;refine Fh ?_;refine qC ?_;cases hlk:vg x with
   |true=>
    refine tw ?_;have e5:adx.wrap ((en:Int)+1)=((en+1:Nat):Int):=by rw[ah (by omega)];omega
    rw[e5];refine fun w6 h6=>⟨⟨en+1,by omega,rM,fun j y hj hy=>?_,rfl,h6⟩,by show l.length-((en+1:Nat):Int).toNat<l.length-(en:Int).toNat;omega⟩;by_cases hje:j=en-at_
    ·subst hje;rw[XK] at hy;cases hy
     exact hlk
    ·exact hU j y (by omega) hy
   |false=>
    refine q8 ?_;refine fx (by simp;omega) ?_;have hc:=sR (linked:=vg) hU XK hlk;have:=IZ (W:=W) (R:=R) (K:=K) (p:=p) (m:=m) (mb:=mb) (mc:=mc) (kb:=kb) (kc:=kc) (w2:=w2) (lb:=some ⟨rb,0,none⟩) (lc:=lc) (n:=en-at_+1) (bad:= -1) (code:=0) (fuel:=fuel) (ob:=ob) (oc:=oc) (done:=done) ik hl (by omega) (by omega) wC (by omega) GW zx (by rw[hc];rfl) (.inl ⟨rfl,rfl⟩) mn;rw[show at_+(en-at_+1) -1=en by omega] at this;exact this
  ·have iM:en=l.length:=by have:=of_decide_eq_false g2;omega
   subst iM;refine lh (by simp) ?_;have rO:(l.drop at_).length=l.length-at_:=adM;have hc:=qW (linked:=vg) (l:=l.drop at_) fun x hx=>by
    obtain⟨j,hj⟩:=aeT hx;exact hU j x (by have:=(adC.1 hj).1;omega) hj
   have:=IZ (W:=W) (R:=R) (K:=K) (p:=p) (m:=m) (mb:=mb) (mc:=mc) (kb:=kb) (kc:=kc) (w2:=w2) (lb:=lb) (lc:=lc) (n:=l.length-at_) (bad:=((l.length-1:Nat):Int)) (code:=2) (fuel:=fuel) (ob:=ob) (oc:=oc) (done:=done) ik hl (by omega) (by omega) wC (by omega) GW zx (by rw[hc,rO];rw[decide_eq_false (by omega)]) (.inr ⟨by congr 1;omega,rfl,by omega⟩) mn;have e7:adx.wrap ((l.length:Int) -1)=((l.length-1:Nat):Int):=by rw[ah (by omega)];omega
   rw[show at_+(l.length-at_) -1=l.length-1 by omega] at this;rw[e7];exact this
 ·have iM:at_=l.length:=by have:=of_decide_eq_false g1;omega
  subst iM;rw[List.drop_length,rE] at mn;simp only[adV] at mn;rw[mn] at h;exact h p2 nT nS jd jc ob oc R' zx GW wC
end
def yI{α β:Type}(f:α→β)(lk:β→Bool):∀l:List α,bu lk (l.map f)=bu (fun x=>lk (f x)) l
 |[]=>rfl
 |x::l=>by
  simp only[aeb,bu];rw[yI f lk l]
def Da{α β σ:Type}(f:α→β)(g:σ→β→Int×σ):∀(l:List α)(s:σ)(i:Nat),gU g s (l.map f) i=gU (fun s x=>g s (f x)) s l i
 |[],s,i=>rfl
 |x::l,s,i=>by
  simp only[aeb,gU];rw[Da f g l]
def Aj{α β σ:Type}(f:α→β)(g:σ→β→Int×σ)(lk:β→Bool):∀(n:Nat)(s:σ)(l:List α),fX g lk n s (l.map f)=fX (fun s x=>g s (f x)) (fun x=>lk (f x)) n s l
 |0,s,l=>rfl
 |n+1,s,[]=>rfl
 |n+1,s,x::l=>by
  have e:=yI f lk (x::l);rw[aeb] at e;rw[aeb];unfold fX;rw[e,←aeb,←List.map_take,←List.map_drop,Da];simp only[Aj f g lk n]
section
variable {W:World} {L R:LH} {K:VK} {X:WK} {p:Nat} {m:Model} {mb kb:OA} {mc kc:Nat} {q:jG} {s:sf}
def IW(m:Model)(l:List aS):fX se vg l.length m (l.map It.a)=fX Model.make wu l.length m l:=Aj It.a se vg _ m l
def IV(m:Model)(l:List Move):fX se vg l.length m (l.map It.t)=fX Model.oF wq l.length m l:=Aj It.t se vg _ m l
def RM.aK{m:Model}{q:jG}(h:RM m)(h1:q.op=1→∀a∈q.ag,vy a)(h2:q.op=2→∀t∈q.aW,uY t):RM (aK m q).2.2:=by
 have run:∀(n:Nat)(l:List It)(m:Model),(∀x∈l,Iq x)→RM m→RM (fX Up.se vg n m l).2:=by
  intro n
  induction n with
  |zero=>intro l m _ hm;exact hm
  |succ n ih=>
   intro l m ik hm;cases l with
   |nil=>exact hm
   |cons x l=>
    have hU:∀(l:List It)(m:Model)(i:Nat),(∀x∈l,Iq x)→RM m→(gU Up.se m l i).1=none→RM (gU Up.se m l i).2:=by
     intro l
     induction l with
     |nil=>intro m i _ hm _;exact hm
     |cons y l OO=>
      intro m i ik hm hn;unfold gU at hn⊢;by_cases hc:(Up.se m y).1≠0
      ·rw[if_pos hc] at hn;cases hn
      ·rw[if_neg hc] at hn⊢;exact OO _ _ (fun z hz=>ik z (aeE _ hz)) (hm.se (ik y List.mem_cons_self)) hn
    rw[fX];by_cases hw:(bu vg (x::l)).2=false
    ·rw[if_pos hw];exact hm
    rw[if_neg hw];cases hd:gU Up.se m ((x::l).take (bu vg (x::l)).1) 0 with
    |mk o s'=>
     have FZ:∀z∈(x::l).drop (bu vg (x::l)).1,Iq z:=fun z hz=>ik z (List.mem_of_mem_drop hz);cases o with
     |none=>
      have:=hU _ m 0 (fun z hz=>ik z (List.mem_of_mem_take hz)) hm (by rw[hd]);rw[hd] at this;exact ih _ _ FZ this
     |some e=>exact ih _ _ FZ hm
 unfold Up.aK;by_cases he:km q=false
 ·rw[if_pos he];exact h
 rw[if_neg he];by_cases o1:q.op=1
 ·rw[if_pos o1,←IW];exact run _ _ _ (fun x hx=>by obtain⟨a,ha,rfl⟩:=aek.1 hx;exact h1 o1 a ha) h
 rw[if_neg o1];by_cases o2:q.op=2
 ·rw[if_pos o2,←IV];exact run _ _ _ (fun x hx=>by obtain⟨a,ha,rfl⟩:=aek.1 hx;exact h2 o2 a ha) h
 rw[if_neg o2];refine h.time _ ?_;unfold km at he;rw[if_neg o1,if_neg o2] at he;by_cases o3:q.op=3
 ·rw[if_pos o3] at he;have he:(decide (0≤q.now)&&decide (q.now≤1099511627776))=true:=by simpa using he
  simp only[aet,decide_eq_true_eq] at he;exact he.1
 ·rw[if_neg o3] at he;exact absurd rfl he
def PT(hm:RM m)(hq:mu W R q s)(y5:q.ag.length<1000000)(a8:q.aW.length<1000000)(h1:q.op=1→∀a∈q.ag,vy a)(h2:q.op=2→∀t∈q.aW,uY t)
 (h:∀p2 nT nS jd jc ob oc R',Bk p m mb mc kb kc R p2 (aK m q).2.2 nT nS jd jc R'→RM (aK m q).2.2→
  T W (ML p2 (aK m q).2.2 nT nS jd jc (own ob (aK m q).2.1.length oc 1 ((aK m q).2.1.flatMap I1)::R')) (K (.tuple ⟨[.l ob (aK m q).2.1.length oc,.i (aK m q).1,.p (some ⟨p2,0,none⟩)]⟩))):
 T W (ML p m mb mc kb kc R) (dS (some ⟨p,0,none⟩) (eu q s) K):=by
 unfold dS dS.j1;have hmf:=hm.mC;have hmm:=hm.many;have KR:=hm.aK h1 h2
 repeat' first|apply ww|apply wm;intro _|apply wb
 rename_i r1;refine CA ?_;by_cases he:km q=false
 ·rw[he]
  repeat' first|apply ww|apply wm;intro _|apply wb
  have e:aK m q=(1,[],m):=by unfold aK;rw[if_pos he]
  rw[e] at h KR;refine T.drop ?_;refine gB (e:=1) ?_;refine T.LA ?_;exact h p mb mc kb kc none 0 R (.inl ⟨rfl,rfl,rfl,rfl,rfl,rfl,rfl⟩) hm
 have LO:km q=true:=by simpa using he
 rw[LO]
 repeat' first|apply ww|apply wm;intro _|apply wb
 refine az (fun g1=>?_) (fun g1=>?_)
 ·have g1:q.op=3:=by simpa using g1
  have e:aK m q=(0,[],m.time q.now):=by unfold aK;rw[if_neg he,if_neg (by omega),if_neg (by omega)]
  rw[e] at h KR;refine T.LA ?_;refine DG (by omega) (by omega) fun p2 nb nc nk MZ=>?_
  repeat' first|apply ww|apply wm;intro _|apply wb
  refine PN (by omega) (fun k hk=>?_) ?_
  ·have:=hm.kept k hk;have t1:=this.timeout;have t2:=this.born;exact ah (by omega)
  repeat' first|apply ww|apply wm;intro _|apply wb
  refine gB (e:=1) ?_;refine T.EN ?_;refine T.sub (h p2 nb nc nk MZ none 0 _ (.inr rfl) KR) ?_
  repeat (first|exact adP.refl _|apply adP.cons_cons|apply adP.cons)
 ·have g1: ¬q.op=3:=by simpa using g1
  have adi:q.op=1∨q.op=2:=by
   unfold km at LO;by_cases o1:q.op=1
   ·exact .inl o1
   ·by_cases o2:q.op=2
    ·exact .inr o2
    ·rw[if_neg o1,if_neg o2,if_neg g1] at LO;cases LO
  repeat' first|apply ww|apply wm;intro _|apply wb
  refine BW (R:=R) hq.ag (by omega) fun b c=>?_
  repeat' first|apply ww|apply wm;intro _|apply wb
  have hl8:q.op=1→q.ag.length≤8:=fun o1=>by
   unfold km at LO;rw[if_pos o1] at LO;simp only[aet,decide_eq_true_eq] at LO;exact LO.2
  have aan:q.op=2→q.aW.length≤8:=fun o2=>by
   unfold km at LO;rw[if_neg (by omega),if_pos o2] at LO;simp only[aet,decide_eq_true_eq] at LO;exact LO.2
  refine az (fun g2=>?_) (fun g2=>?_)
  ·have g2:q.op=2:=by simpa using g2
   have e:aK m q=(0,fX se vg (q.aW.map It.t).length m (q.aW.map It.t)):=by unfold aK;rw[if_neg he,if_neg (by omega),if_pos g2,ad1,IV]
   rw[e] at h KR
   repeat' first|apply ww|apply wm;intro _|apply wb
   refine As (R:=R) hq.aW (by omega) fun b2 c2=>?_
   repeat' first|apply ww|apply wm;intro _|apply wb
   refine T.sub (M:=own b2 q.aW.length c2 31 ((q.aW.map It.t).flatMap vB)::ML p m mb mc kb kc R) ?_ (by repeat (first|exact adP.refl _|apply adP.cons_cons|apply adP.cons));refine T.LA ?_;have OX:q.aW.length=(q.aW.map It.t).length:=(ad1 _).symm;rw[OX];refine MK hm (fun x hx=>by obtain⟨t,ht,rfl⟩:=aek.1 hx;exact h2 g2 t ht) (by rw[ad1];have:=aan g2;omega) fun p2 nT nS jd jc ob oc R' zx TU hlen=>?_
   repeat' first|apply ww|apply wm;intro _|apply wb
   have hh:=h p2 nT nS jd jc ob oc R' zx TU;dsimp only at hh;rw[hlen] at hh;refine T.sub hh ?_;exact nZ
  ·have g2: ¬q.op=2:=by simpa using g2
   have o1:q.op=1:=by omega
   have e:aK m q=(0,fX se vg (q.ag.map It.a).length m (q.ag.map It.a)):=by unfold aK;rw[if_neg he,if_pos o1,ad1,IW]
   rw[e] at h KR;refine T.sub (M:=own b q.ag.length c 31 ((q.ag.map It.a).flatMap vB)::ML p m mb mc kb kc R) ?_ (by repeat (first|exact adP.refl _|apply adP.cons_cons|apply adP.cons));refine T.LA ?_;have OX:q.ag.length=(q.ag.map It.a).length:=(ad1 _).symm;rw[OX];refine MK hm (fun x hx=>by obtain⟨t,ht,rfl⟩:=aek.1 hx;exact h1 o1 t ht) (by rw[ad1];have:=hl8 o1;omega) fun p2 nT nS jd jc ob oc R' zx TU hlen=>?_
   repeat' first|apply ww|apply wm;intro _|apply wb
   have hh:=h p2 nT nS jd jc ob oc R' zx TU;dsimp only at hh;rw[hlen] at hh;refine T.sub hh ?_;exact nZ
end
def wx(from_ to s:Int):Bool:=decide (from_≤s∧(to=0∨s≤to))
def Fl{s:Int}:∀{l:List ln},(∀p∈l,s≤p.1)→pos s l=0
 |[],_=>rfl
 |p::l,h=>by unfold pos;rw[if_neg (by have:=h p List.mem_cons_self;omega)]
def ud{to:Int}(h0: ¬to=0){l:List ln}(h:∀p∈l,to<p.1):qB to l=0:=by
 unfold qB;rw[if_neg h0,Fl fun p hp=>by have:=h p hp;omega];cases l with
 |nil=>rfl
 |cons q l=>
  have:=h q List.mem_cons_self;show(if q.1=to then 0+1 else 0)=0;rw[if_neg (by omega)]
def Cg{to:Int}(h0: ¬to=0){p:ln}{l:List ln}(hU:∀q∈l,p.1<q.1):qB to (p::l)=if p.1<to+1 then qB to l+1 else 0:=by
 by_cases h1:p.1<to
 ·rw[if_pos (by omega)];unfold qB;rw[if_neg h0,if_neg h0,pos,if_pos h1,adR];cases l[pos to l]? with
  |none=>rfl
  |some q=>
   dsimp only;split<;>rfl
 ·by_cases h2:p.1=to
  ·rw[if_pos (by omega),ud (l:=l) h0 fun q hq=>by have:=hU q hq;omega];unfold qB;rw[if_neg h0,show pos to (p::l)=0 by rw[pos,if_neg h1]];show(if p.1=to then 0+1 else 0)=1;rw[if_pos h2]
  ·rw[if_neg (by omega)];exact ud h0 fun q hq=>by
    rcases aeS.1 hq with hq|hq
    ·subst hq;omega
    ·have:=hU q hq;omega
def uM(from_ to:Int):∀(l:List ln),oY l→nh from_ to l=l.filter fun p=>wx from_ to p.1
 |[],_=>by unfold nh;simp
 |p::l,hr=>by
  have OV:oY l:=(List.pairwise_cons.1 hr).2;have hU:∀q∈l,p.1<q.1:=(List.pairwise_cons.1 hr).1;have ih:=uM from_ to l OV;unfold nh at ih⊢;by_cases h1:p.1<from_
  ·have e1:pos from_ (p::l)=pos from_ l+1:=by rw[pos,if_pos h1]
   have e2:wx from_ to p.1=false:=decide_eq_false (by omega);rw[e1,aeA (by rw[e2];decide),List.drop_succ_cons,←ih];by_cases h2:to=0
   ·unfold qB;rw[if_pos h2,if_pos h2];simp only[adW,Nat.add_sub_add_right]
   ·rw[Cg h2 hU];by_cases h3:p.1<to+1
    ·rw[if_pos h3,Nat.add_sub_add_right]
    ·rw[if_neg h3,ud h2 fun q hq=>by have:=hU q hq;omega];simp
  ·have e1:pos from_ (p::l)=0:=by rw[pos,if_neg h1]
   have e3:pos from_ l=0:=Fl fun q hq=>by have:=hU q hq;omega
   rw[e3,Nat.sub_zero,aeJ] at ih;rw[e1,Nat.sub_zero,aeJ];by_cases h2:to=0
   ·have e2:wx from_ to p.1=true:=decide_eq_true (by omega);unfold qB at ih⊢;rw[if_pos h2] at ih⊢;rw[aez (p:=fun p:ln=>wx from_ to p.1) (a:=p) (l:=l) e2,←ih];simp
   ·rw[Cg h2 hU];by_cases h3:p.1<to+1
    ·have e2:wx from_ to p.1=true:=decide_eq_true (by omega);rw[if_pos h3,List.take_succ_cons,ih,aez (p:=fun p:ln=>wx from_ to p.1) (a:=p) (l:=l) e2]
    ·have e2:wx from_ to p.1=false:=decide_eq_false (by omega);rw[ud h2 fun q hq=>by have:=hU q hq;omega,ae0] at ih;rw[if_neg h3,ae0,aeA (by rw[e2];decide),←ih]
def sX{b:ax}(P:Int→Bool):∀(l:List Kept)(i:Nat),(∀j,j<l.length→b.kept[i+j]?=l[j]?)→((da i l).filter fun p=>P p.1).map (sz b)=l.filter fun k=>P k.move.af
 |[],i,_=>rfl
 |k::l,i,h=>by
  have h0:=h 0 (by simp);rw[aev] at h0;have hka:sz b (k.move.af,(i:Int))=k:=by unfold sz;dsimp only;rw[adB,h0];rfl
  have ih:=sX P l (i+1) fun j hj=>by
   have:=h (j+1) (by simpa using hj);rw[adR] at this;rw[←this];congr 1;omega
  unfold da;by_cases hp:P k.move.af=true
  ·rw[aez (by exact hp),aez (by exact hp),aeb,hka,ih]
  ·rw[aeA (by exact hp),aeA (by exact hp),ih]
def UW{b:ax}(hg:Good b)(from_ to:Int)(sy:Bool):UX b from_ to sy=(if sy then b.kept.reverse else b.kept).filter fun k=>wx from_ to k.move.af:=by
 have h:=uM from_ to _ hg.tD;have h2:=sX (b:=b) (wx from_ to) b.kept 0 fun j hj=>by rw[adE]
 unfold UX;rw[h];cases sy with
 |true=>
  rw[if_pos rfl,if_pos rfl,List.map_reverse,h2,List.filter_reverse]
 |false=>
  rw[if_neg ad4,if_neg ad4,h2]
def tU{α:Type}{key:α→Nat}:∀(l:List α)(id:Nat),(l.map key).Nodup→(l.filter fun x=>decide (key x=id))=(l.find? fun x=>decide (key x=id)).toList
 |[],id,_=>rfl
 |x::l,id,hn=>by
  rw[aeb,List.nodup_cons] at hn;by_cases h:key x=id
  ·rw[aez (p:=fun x=>decide (key x=id)) (a:=x) (l:=l) (decide_eq_true h),List.find?_cons_of_pos (p:=fun x=>decide (key x=id)) (a:=x) (decide_eq_true h)];have:l.filter (fun x=>decide (key x=id))=[]:=by
    rw[List.filter_eq_nil_iff];intro y hy hh;exact hn.1 (by rw[h,←of_decide_eq_true hh];exact List.mem_map_of_mem hy)
   rw[this];rfl
  ·rw[aeA (p:=fun x=>decide (key x=id)) (a:=x) (l:=l) (by rw[decide_eq_false h];decide),List.find?_cons_of_neg (p:=fun x=>decide (key x=id)) (a:=x) (by rw[decide_eq_false h];decide),tU l id hn.2]
def qm{α β:Type}(f:α→Option β):∀l:List α,l.filterMap f=l.flatMap fun x=>(f x).toList
 |[]=>rfl
 |x::l=>by
  rw[aeo,←qm f l,List.filterMap_cons];cases f x<;>rfl
def findAll{b:ax}(hg:Good b)(ids:List Nat):(ids.flatMap fun id=>b.ag.filter fun a=>decide (a.id=id))=ids.filterMap b.find:=by
 rw[qm]
 congr 1
 funext id
 exact tU (key:=fun a:aS=>a.id) b.ag id hg.ids
def M4{b:ax}(hg:Good b)(ids:List Nat):(ids.flatMap fun id=>(b.kept.filter fun k=>decide (k.move.id=id)).map (·.move))=ids.filterMap fun id=>(b.named id).map (·.move):=by
 rw[qm]
 congr 1
 funext id
 rw[tU (key:=fun k:Kept=>k.move.id) b.kept id hg.names];show _=((b.kept.find? _).map _).toList;cases b.kept.find? (fun x=>decide (x.move.id=id))<;>rfl
def MW(b:ax)(q:jG):List Move:=((((if q.nq then b.kept.reverse else b.kept).filter fun k=>wx q.iw q.rP k.move.af&&fits q k).take q.jt.toNat)).map (·.move)
def Fp{b:ax}(hg:Good b)(q:jG):MW b q=Wp b q:=by
 unfold MW Wp;rw[UW hg,List.filter_filter]
 congr 2
 apply List.filter_congr;intro k _;rw[Bool.and_comm]
section
variable {W:World} {L R:LH} {K:VK} {X:WK} {q:jG} {s:sf}
def BV{ab:OA}{ac:Nat}{al:List aS}{f:HP→LH}[i:pa ab al.length ac L 14 (al.flatMap ak) f][hh:Has R L]{s:OA}{c:Nat}{ids:List Nat}(hr:oz W R nm 2 s ids)(hl:ids.length≤1000)(XD:al.length≤1000)
 (h:∀b' c' out,out=(ids.flatMap fun id=>al.filter fun a=>decide (a.id=id))→T W (own b' out.length c' 14 (out.flatMap ak)::L) (K (.l b' out.length c'))):T W L (eS ab al.length ac s ids.length c K):=by
 unfold eS;refine gB (e:=14) ?_;intro w ku;refine⟨fun vv w=>∃(i:Nat)(bo:OA)(cc:Nat)(done:List aS),i≤ids.length∧done=((ids.take i).flatMap fun id=>al.filter fun a=>decide (a.id=id))∧done.length≤1000* i∧vv=[.l none 0 0,.l bo done.length cc,.l s ids.length c,.i (ids.length:Int),.i (i:Int)]∧
  St W w (own bo done.length cc 14 (done.flatMap ak)::L),
  fun vs _=>match vs with|[_,_,_,_,.int _ d]=>ids.length-d.toNat|_=>0,⟨0,none,0,[],adK _,by simp,by simp,rfl,ku⟩,?_⟩
 rintro uF qg uE bo pL cc yV yg yU n3 n4 w2 ⟨i,b0,c0,done,hi,jz,wC,e,gN⟩;cases e
 refine T.at ?_ gN;refine az (fun g1=>?_) (fun g1=>?_)
 ·have a8:i<ids.length:=by have:=of_decide_eq_true g1;omega
  have gx:=adA a8;generalize ids[i]=x at gx;have fy:((ids.take (i+1)).flatMap fun id=>al.filter fun a=>decide (a.id=id))=done++al.filter fun a=>decide (a.id=x):=by
   rw[adT,gx,aex,←jz];simp
  refine kV hr ⟨by omega,by omega⟩ rfl fun a ha=>?_;rw[adB];refine kT hr ha gx rfl ?_
  repeat' first|apply ww|apply wm;intro _|apply wb
  rename_i r1;intro w3 qL;refine⟨fun vv w=>∃(j:Nat)(bo:OA)(cc:Nat)(dn:List aS),j≤al.length∧dn=done++((al.take j).filter fun a=>decide (a.id=x))∧dn.length≤1000* i+j∧vv=[.l none 0 0,.l bo dn.length cc,.p (some (ad r1 0)),.l s ids.length c,.i (ids.length:Int),.i (i:Int),.l ab al.length ac,.i (al.length:Int),.i (j:Int)]∧
   St W w (Sep.pt r1 (nm x)::own bo dn.length cc 14 (dn.flatMap ak)::L),
   fun vs _=>match vs with|[_,_,_,_,_,_,_,_,.int _ d]=>al.length-d.toNat|_=>0,⟨0,bo,cc,done,adK _,by simp,by omega,rfl,qL⟩,?_⟩
  rintro ZF Zy Wg YB sn7 VP a2 ZE sn8 ZB n5 n6 sb9 sn9 sc9 n7 n8 w4 ⟨j,b1,c1,dn,hj,QC,aay,e,th⟩;cases e
  refine T.at ?_ th;have e5:adx.wrap ((j:Int)+1)=((j+1:Nat):Int):=by rw[ah (by omega)];omega
  refine az (fun g2=>?_) (fun g2=>?_)
  ·have rM:j<al.length:=by have:=of_decide_eq_true g2;omega
   have gy:=adA rM;generalize al[j]=y at gy;refine bV (b:=ab) ⟨by omega,by omega⟩ fun rb hb=>?_;rw[adB];subst hb;refine dV gL gy ?_
   repeat' first|apply ww|apply wm;intro _|apply wb
   rw[e5];refine az (fun g3=>?_) (fun g3=>?_)
   ·have B2:done++((al.take (j+1)).filter fun a=>decide (a.id=x))=dn++[y]:=by
     rw[adT,gy,List.filter_append,←adI,←QC]
     congr 1
     show[y].filter _=[y];rw[aez (by exact g3)];rfl
    repeat' first|apply ww|apply wm;intro _|apply wb
    refine jm (g:=ak) (l:=dn) (x:=y) (adV _) rfl rfl (by omega) (by omega) (gn _) fun b2 c2=>?_;refine T.drop (T.drop fun w5 h5=>⟨⟨j+1,b2,c2,dn++[y],rM,B2.symm,by simp;omega,by simp,by simpa using h5⟩,by show al.length-((j+1:Nat):Int).toNat<al.length-(j:Int).toNat;omega⟩)
   ·have B2:done++((al.take (j+1)).filter fun a=>decide (a.id=x))=dn:=by
     rw[adT,gy,List.filter_append,←adI,←QC];have:[y].filter (fun a:aS=>decide (a.id=x))=[]:=by rw[aeA (by rw[g3];decide)];rfl
     show dn++[y].filter _=dn;rw[this,adV]
    refine T.drop fun w5 h5=>⟨⟨j+1,YB,VP,dn,rM,B2.symm,by omega,rfl,h5⟩,by show al.length-((j+1:Nat):Int).toNat<al.length-(j:Int).toNat;omega⟩
  ·have iM:j=al.length:=by have:=of_decide_eq_false g2;omega
   subst iM;rw[adN] at QC;have e6:adx.wrap ((i:Int)+1)=((i+1:Nat):Int):=by rw[ah (by omega)];omega
   rw[e6];refine T.drop fun w5 h5=>⟨⟨i+1,YB,VP,dn,a8,by rw[fy,QC],by omega,rfl,h5⟩,by show ids.length-((i+1:Nat):Int).toNat<ids.length-(i:Int).toNat;omega⟩
 ·have iM:i=ids.length:=by have:=of_decide_eq_false g1;omega
  subst iM;rw[adN] at jz;exact h bo cc done jz
def Ar{ab:OA}{ac:Nat}{al:List Kept}{f:HP→LH}[i:pa ab al.length ac L 33 (al.flatMap aM) f][hh:Has R L]{s:OA}{c:Nat}{ids:List Nat}(hr:oz W R nm 2 s ids)(hl:ids.length≤1000)(XD:al.length≤1000)
 (h:∀b' c' out,out=(ids.flatMap fun id=>(al.filter fun k=>decide (k.move.id=id)).map (·.move))→T W (own b' out.length c' 16 (out.flatMap ai)::L) (K (.l b' out.length c'))):T W L (dY ab al.length ac s ids.length c K):=by
 unfold dY;refine gB (e:=16) ?_;intro w ku;refine⟨fun vv w=>∃(i:Nat)(bo:OA)(cc:Nat)(done:List Move),i≤ids.length∧done=((ids.take i).flatMap fun id=>(al.filter fun k=>decide (k.move.id=id)).map (·.move))∧done.length≤1000* i∧vv=[.l none 0 0,.l bo done.length cc,.l s ids.length c,.i (ids.length:Int),.i (i:Int)]∧
  St W w (own bo done.length cc 16 (done.flatMap ai)::L),
  fun vs _=>match vs with|[_,_,_,_,.int _ d]=>ids.length-d.toNat|_=>0,⟨0,none,0,[],adK _,by simp,by simp,rfl,ku⟩,?_⟩
 rintro uF qg uE bo pL cc yV yg yU n3 n4 w2 ⟨i,b0,c0,done,hi,jz,wC,e,gN⟩;cases e
 refine T.at ?_ gN;refine az (fun g1=>?_) (fun g1=>?_)
 ·have a8:i<ids.length:=by have:=of_decide_eq_true g1;omega
  have gx:=adA a8;generalize ids[i]=x at gx;have fy:((ids.take (i+1)).flatMap fun id=>(al.filter fun k=>decide (k.move.id=id)).map (·.move))=done++(al.filter fun k=>decide (k.move.id=x)).map (·.move):=by
   rw[adT,gx,aex,←jz];simp
  refine kV hr ⟨by omega,by omega⟩ rfl fun a ha=>?_;rw[adB];refine kT hr ha gx rfl ?_
  repeat' first|apply ww|apply wm;intro _|apply wb
  rename_i r1;intro w3 qL;refine⟨fun vv w=>∃(j:Nat)(bo:OA)(cc:Nat)(dn:List Move),j≤al.length∧dn=done++((al.take j).filter fun k=>decide (k.move.id=x)).map (·.move)∧dn.length≤1000* i+j∧vv=[.l none 0 0,.l bo dn.length cc,.p (some (ad r1 0)),.l s ids.length c,.i (ids.length:Int),.i (i:Int),.l ab al.length ac,.i (al.length:Int),.i (j:Int)]∧
   St W w (Sep.pt r1 (nm x)::own bo dn.length cc 16 (dn.flatMap ai)::L),
   fun vs _=>match vs with|[_,_,_,_,_,_,_,_,.int _ d]=>al.length-d.toNat|_=>0,⟨0,bo,cc,done,adK _,by simp,by omega,rfl,qL⟩,?_⟩
  rintro ZF Zy Wg YB sn7 VP a2 ZE sn8 ZB n5 n6 sb9 sn9 sc9 n7 n8 w4 ⟨j,b1,c1,dn,hj,QC,aay,e,th⟩;cases e
  refine T.at ?_ th;have e5:adx.wrap ((j:Int)+1)=((j+1:Nat):Int):=by rw[ah (by omega)];omega
  refine az (fun g2=>?_) (fun g2=>?_)
  ·have rM:j<al.length:=by have:=of_decide_eq_true g2;omega
   have gy:=adA rM;generalize al[j]=y at gy;refine bV (b:=ab) ⟨by omega,by omega⟩ fun rb hb=>?_;rw[adB];subst hb;refine dV hG gy ?_
   repeat' first|apply ww|apply wm;intro _|apply wb
   rw[e5];refine az (fun g3=>?_) (fun g3=>?_)
   ·have B2:done++((al.take (j+1)).filter fun k=>decide (k.move.id=x)).map (·.move)=dn++[y.move]:=by
     rw[adT,gy,List.filter_append,ad8,←adI,←QC]
     congr 1
     show([y].filter _).map _=[y.move];rw[aez (by exact g3)];rfl
    repeat' first|apply ww|apply wm;intro _|apply wb
    refine jm (g:=ai) (l:=dn) (x:=y.move) (adV _) rfl rfl (by omega) (by omega) (ml _) fun b2 c2=>?_;refine T.drop (T.drop fun w5 h5=>⟨⟨j+1,b2,c2,dn++[y.move],rM,B2.symm,by simp;omega,by simp,by simpa using h5⟩,by show al.length-((j+1:Nat):Int).toNat<al.length-(j:Int).toNat;omega⟩)
   ·have B2:done++((al.take (j+1)).filter fun k=>decide (k.move.id=x)).map (·.move)=dn:=by
     rw[adT,gy,List.filter_append,ad8,←adI,←QC];have:[y].filter (fun k:Kept=>decide (k.move.id=x))=[]:=by rw[aeA (by rw[g3];decide)];rfl
     show dn++([y].filter _).map _=dn;rw[this];simp
    refine T.drop fun w5 h5=>⟨⟨j+1,YB,VP,dn,rM,B2.symm,by omega,rfl,h5⟩,by show al.length-((j+1:Nat):Int).toNat<al.length-(j:Int).toNat;omega⟩
  ·have iM:j=al.length:=by have:=of_decide_eq_false g2;omega
   subst iM;rw[adN] at QC;have e6:adx.wrap ((i:Int)+1)=((i+1:Nat):Int):=by rw[ah (by omega)];omega
   rw[e6];refine T.drop fun w5 h5=>⟨⟨i+1,YB,VP,dn,a8,by rw[fy,QC],by omega,rfl,h5⟩,by show ids.length-((i+1:Nat):Int).toNat<ids.length-(i:Int).toNat;omega⟩
 ·have iM:i=ids.length:=by have:=of_decide_eq_false g1;omega
  subst iM;rw[adN] at jz;exact h bo cc done jz
end
instance{t:Move}:Sub (ai t) 2 2 (nm t.aH):=⟨rfl,(uC (cs:=ai t) (o:=2) (n:=t.aH) rfl rfl).2⟩
instance{t:Move}:Sub (ai t) 4 2 (nm t.ar):=⟨rfl,(uC (cs:=ai t) (o:=4) (n:=t.ar) rfl rfl).2⟩
section
variable {W:World} {L R M:LH} {K:VK} {X:WK} {q:jG} {s:sf}
def J8{I1:LV→World→Prop}{pc:LV→World→Nat}{r1 r2 cc:Nat}{bo:OA}{done:List Move}{x:Kept}{n3 n4:Int}{w2:World}{g:LV→LH}
 (hA:(done.length<q.jt.toNat∧(wx q.iw q.rP x.move.af&&fits q x)=true)→∀b2 c2,T W (own b2 (done.length+1) c2 16 ((done++[x.move]).flatMap ai)::M) (fun w3=>I1 [.p (some (ad r1 0)),.l none 0 0,.l b2 (done.length+1) c2,.i n3,.i (adx.wrap (n4+1))] w3∧
  pc [.p (some (ad r1 0)),.l none 0 0,.l b2 (done.length+1) c2,.i n3,.i (adx.wrap (n4+1))] w3<pc [.p (some (ad r1 0)),.l none 0 0,.l bo done.length cc,.i n3,.i n4] w2))
 (hN: ¬(done.length<q.jt.toNat∧(wx q.iw q.rP x.move.af&&fits q x)=true)→T W (own bo done.length cc 16 (done.flatMap ai)::M) (fun w3=>I1 [.p (some (ad r1 0)),.l none 0 0,.l bo done.length cc,.i n3,.i (adx.wrap (n4+1))] w3∧
  pc [.p (some (ad r1 0)),.l none 0 0,.l bo done.length cc,.i n3,.i (adx.wrap (n4+1))] w3<pc [.p (some (ad r1 0)),.l none 0 0,.l bo done.length cc,.i n3,.i n4] w2))
 [i1:Lc (Sep.pt r1) M (mG q) g](DV:0≤q.jt∧q.jt≤16)(hd:done.length≤1000):
 T W (Sep.pt r2 (aM x)::own bo done.length cc 16 (done.flatMap ai)::M) (aI.j1 K r2 (ad r1 0) I1 none 0 0 bo done.length cc n3 n4 pc w2):=by
 have j3:∀(r3:Nat)(yes:Bool),(yes=true↔done.length<q.jt.toNat∧(wx q.iw q.rP x.move.af&&fits q x)=true)→T W (Sep.pt r3 (ai x.move)::Sep.pt r2 (aM x)::own bo done.length cc 16 (done.flatMap ai)::M) (aI.j3 K r3 bo done.length cc I1 (ad r1 0) none 0 0 n3 n4 pc w2 yes):=fun r3 yes hy=>by
  unfold aI.j3;cases yes with
  |true=>
   repeat' first|apply ww|apply wm;intro _|apply wb
   refine jm (b:=bo) (g:=ai) (l:=done) (x:=x.move) (adV _) rfl rfl (by omega) (by omega) (ml _) fun b2 c2=>?_;exact T.drop (T.drop (T.drop (hA (hy.1 rfl) b2 c2)))
  |false=>
   repeat' first|apply ww|apply wm;intro _|apply wb
   exact T.drop (T.drop (hN fun hh=>by have:=hy.2 hh;cases this))
 have j4:∀(r3:Nat)(b2:Bool),b2=(q.rR&&decide (x.move.aH=q.s8))→done.length<q.jt.toNat→wx q.iw q.rP x.move.af=true→T W (Sep.pt r3 (ai x.move)::Sep.pt r2 (aM x)::own bo done.length cc 16 (done.flatMap ai)::M) (aI.j4 K r3 bo done.length cc I1 (ad r1 0) none 0 0 n3 n4 pc w2 b2):=fun r3 b2 hb hl hi=>by
  unfold aI.j4;have hf:fits q x=(b2||(q.pN&&decide (x.move.ar=q.s8))):=by rw[hb];rfl
  cases b2 with
  |true=>
   repeat' first|apply ww|apply wm;intro _|apply wb
   refine j3 r3 true ⟨fun _=>⟨hl,by rw[hi,hf];rfl⟩,fun _=>rfl⟩
  |false=>
   rw[Bool.false_or] at hf
   repeat' first|apply ww|apply wm;intro _|apply wb
   cases hc:q.pN with
   |true=>
    repeat' first|apply ww|apply wm;intro _|apply wb
    rw[hc,aeC] at hf;refine j3 r3 _ ⟨fun h=>⟨hl,by rw[hi,hf,h];rfl⟩,fun h=>by rw[hi,hf,aeC] at h;exact h.2⟩
   |false=>
    repeat' first|apply ww|apply wm;intro _|apply wb
    rw[hc,aeL] at hf;refine j3 r3 false ⟨fun h=>(by cases h),fun h=>by rw[hf,Bool.and_false] at h;cases h.2⟩
 have j2:∀(r3:Nat)(b2:Bool),(b2=true↔wx q.iw q.rP x.move.af=false∨¬done.length<q.jt.toNat)→T W (Sep.pt r3 (ai x.move)::Sep.pt r2 (aM x)::own bo done.length cc 16 (done.flatMap ai)::M) (aI.j2 K I1 (ad r1 0) none 0 0 bo done.length cc n3 n4 pc w2 r3 b2):=fun r3 b2 hb=>by
  unfold aI.j2;cases b2 with
  |true=>
   repeat' first|apply ww|apply wm;intro _|apply wb
   refine T.drop (T.drop (hN fun hh=>?_));rcases hb.1 rfl with h|h
   ·rw[h,aeL] at hh;cases hh.2
   ·exact h hh.1
  |false=>
   have hi:wx q.iw q.rP x.move.af=true:=by
    cases h:wx q.iw q.rP x.move.af with
    |true=>rfl
    |false=>have:=hb.2 (.inl h);cases this
   have hl:done.length<q.jt.toNat:=Decidable.byContradiction fun h=>by have:=hb.2 (.inr h);cases this
   repeat' first|apply ww|apply wm;intro _|apply wb
   cases O5:q.rR with
   |true=>
    repeat' first|apply ww|apply wm;intro _|apply wb
    refine j4 r3 _ ?_ hl hi;rw[O5,aeC]
   |false=>
    repeat' first|apply ww|apply wm;intro _|apply wb
    refine j4 r3 _ ?_ hl hi;rw[O5,aeL]
 unfold aI.j1 aI.j5
 repeat' first|apply ww|apply wm;intro _|apply wb
 rename_i r3;refine az (fun g1=>?_) (fun g1=>?_)
 ·have g1:=of_decide_eq_true g1;refine j2 r3 true ⟨fun _=>.inl (decide_eq_false (by omega)),fun _=>rfl⟩
 ·have g1:=of_decide_eq_false g1
  repeat' first|apply ww|apply wm;intro _|apply wb
  refine az (fun g2=>?_) (fun g2=>?_)
  ·have g2:=bne_iff_ne.1 g2
   repeat' first|apply ww|apply wm;intro _|apply wb
   refine az (fun g3=>?_) (fun g3=>?_)
   ·have g3:=of_decide_eq_true g3;refine j2 r3 true ⟨fun _=>.inl (decide_eq_false (by omega)),fun _=>rfl⟩
   ·have g3:=of_decide_eq_false g3;have hi:wx q.iw q.rP x.move.af=true:=decide_eq_true (by omega)
    repeat' first|apply ww|apply wm;intro _|apply wb
    refine j2 r3 _ ⟨fun h=>.inr (by have:=of_decide_eq_true h;omega),fun h=>?_⟩;rcases h with h|h
    ·rw[hi] at h;cases h
    ·exact decide_eq_true (by omega)
  ·have g2:q.rP=0:=by simpa using g2
   have hi:wx q.iw q.rP x.move.af=true:=decide_eq_true (by omega)
   repeat' first|apply ww|apply wm;intro _|apply wb
   refine j2 r3 _ ⟨fun h=>.inr (by have:=of_decide_eq_true h;omega),fun h=>?_⟩;rcases h with h|h
   ·rw[hi] at h;cases h
   ·exact decide_eq_true (by omega)
def PU{ab:OA}{ac:Nat}{al:List Kept}{f:HP→LH}[ii:pa ab al.length ac L 33 (al.flatMap aM) f](XD:al.length≤1000)(DV:0≤q.jt∧q.jt≤16)
 (h:∀b' c' out,out=((((if q.nq then al.reverse else al).filter fun k=>wx q.iw q.rP k.move.af&&fits q k).take q.jt.toNat)).map (·.move)→T W (own b' out.length c' 16 (out.flatMap ai)::L) (K (.l b' out.length c'))):
 T W L (aI ab al.length ac (mG q) K):=by
 unfold aI
 repeat' first|apply ww|apply wm;intro _|apply wb
 rename_i r1;obtain⟨l,hl⟩:∃l,l=if q.nq then al.reverse else al:=⟨_,rfl⟩
 have CV:l.length=al.length:=by rw[hl];split<;>simp
 rw[←hl] at h;refine gB (e:=16) ?_;intro w ku;refine⟨fun vv w=>∃(i:Nat)(bo:OA)(cc:Nat)(done:List Move),i≤l.length∧done=(((l.take i).filter fun k=>wx q.iw q.rP k.move.af&&fits q k).take q.jt.toNat).map (·.move)∧done.length≤i∧vv=[.p (some (ad r1 0)),.l none 0 0,.l bo done.length cc,.i (al.length:Int),.i (i:Int)]∧
    St W w (own bo done.length cc 16 (done.flatMap ai)::Sep.pt r1 (mG q)::L),
  fun vs _=>match vs with|[_,_,_,_,.int _ d]=>al.length-d.toNat|_=>0,⟨0,none,0,[],adK _,by simp,adG _,rfl,ku⟩,?_⟩
 rintro a1 uF qg uE bo pL cc n3 n4 w2 ⟨i,b0,c0,done,hi,jz,wC,e,gN⟩;cases e
 refine T.at ?_ gN;have e5:adx.wrap ((i:Int)+1)=((i+1:Nat):Int):=by rw[ah (by omega)];omega
 refine az (fun g1=>?_) (fun g1=>?_)
 ·have a8:i<l.length:=by have:=of_decide_eq_true g1;omega
  have gx:=adA a8;generalize l[i]=x at gx;have fy:=yb (P:=fun k=>wx q.iw q.rP k.move.af&&fits q k) (n:=q.jt.toNat) gx;have rO:done.length=(((l.take i).filter fun k=>wx q.iw q.rP k.move.af&&fits q k).take q.jt.toNat).length:=by rw[jz,ad1]
  rw[←rO] at fy;have s6:(((l.take (i+1)).filter fun k=>wx q.iw q.rP k.move.af&&fits q k).take q.jt.toNat).map (·.move)=if done.length<q.jt.toNat∧(wx q.iw q.rP x.move.af&&fits q x)=true then done++[x.move] else done:=by
   rw[fy];by_cases c1:done.length<q.jt.toNat
   ·rw[if_pos c1];by_cases c2:(wx q.iw q.rP x.move.af&&fits q x)=true
    ·rw[if_pos c2,if_pos ⟨c1,c2⟩,ad8,←jz];rfl
    ·rw[if_neg c2,if_neg (fun h=>c2 h.2),←jz]
   ·rw[if_neg c1,if_neg (fun h=>c1 h.1),←jz]
  have Uc:i<al.length:=by omega
  have gy:=adA Uc;refine bV (b:=ab) ⟨by omega,by omega⟩ fun rb hb=>?_;subst hb;rw[adB];refine dV hG gy ?_
  repeat' first|apply ww|apply wm;intro _|apply wb
  rename_i r2;have fin:T W (Sep.pt r2 (aM x)::own bo done.length cc 16 (done.flatMap ai)::Sep.pt r1 (mG q)::L) (aI.j1 K r2 (ad r1 0) (fun vv w=>∃(i:Nat)(bo:OA)(cc:Nat)(done:List Move),i≤l.length∧done=(((l.take i).filter fun k=>wx q.iw q.rP k.move.af&&fits q k).take q.jt.toNat).map (·.move)∧done.length≤i∧vv=[.p (some (ad r1 0)),.l none 0 0,.l bo done.length cc,.i (al.length:Int),.i (i:Int)]∧
   St W w (own bo done.length cc 16 (done.flatMap ai)::Sep.pt r1 (mG q)::L)) none 0 0 bo done.length cc (al.length:Int) (i:Int) (fun vs _=>match vs with|[_,_,_,_,.int _ d]=>al.length-d.toNat|_=>0) w2):=by
   refine J8 (q:=q) (x:=x) (M:=Sep.pt r1 (mG q)::L) (fun hy b2 c2=>?_) (fun hy=>?_) DV (by omega)
   ·rw[e5];rw[if_pos hy] at s6;exact fun w3 h3=>⟨⟨i+1,b2,c2,done++[x.move],a8,s6.symm,by simp;omega,by simp,by simpa using h3⟩,by show al.length-((i+1:Nat):Int).toNat<al.length-(i:Int).toNat;omega⟩
   ·rw[e5];rw[if_neg hy] at s6;exact fun w3 h3=>⟨⟨i+1,bo,cc,done,a8,s6.symm,by omega,rfl,h3⟩,by show al.length-((i+1:Nat):Int).toNat<al.length-(i:Int).toNat;omega⟩
  cases y5:q.nq with
  |true=>
   rw[y5,if_pos rfl] at hl
   repeat' first|apply ww|apply wm;intro _|apply wb
   have e7:adx.wrap (adx.wrap ((al.length:Int) -1) -(i:Int))=((al.length-1-i:Nat):Int):=by rw[ah (n:=(al.length:Int) -1) (by omega),ah (by omega)];omega
   rw[e7];refine bV (b:=some ⟨rb,0,none⟩) ⟨by omega,by omega⟩ fun ON hb=>?_;cases hb
   rw[adB];have gz:al[al.length-1-i]?=some x:=by rw[hl,List.getElem?_reverse Uc] at gx;exact gx
   refine dV hG gz ?_
   repeat' first|apply ww|apply wm;intro _|apply wb
   exact fin
  |false=>
   rw[y5,if_neg ad4] at hl;subst hl;rw[gx] at gy;have VA:x=l[i]'Uc:=by injection gy
   rw[←VA]
   repeat' first|apply ww|apply wm;intro _|apply wb
   exact fin
 ·have iM:i=l.length:=by have:=of_decide_eq_false g1;omega
  subst iM;rw[adN] at jz;have:=h bo cc done jz;refine T.sub this ?_;exact nZ
end
section
variable {W:World} {L R M:LH} {K:VK} {X:WK} {q:jG} {s:sf}
def Bv(al:List aS)(kl:List Kept)(q:jG):Int×List aS×List Move:=
 if lV q=false then(1,[],[])
 else if q.op=4 then(0,(q.ids.flatMap fun id=>al.filter fun a=>decide (a.id=id)),[])
 else if q.op=5 then(0,[],q.ids.flatMap fun id=>(kl.filter fun k=>decide (k.move.id=id)).map (·.move))
 else(0,[],((((if q.nq then kl.reverse else kl).filter fun k=>wx q.iw q.rP k.move.af&&fits q k).take q.jt.toNat)).map (·.move))
def Ri{m:Model}(hg:Good (bo m))(q:jG):Bv (bo m).ag (bo m).kept q=ask m q:=by
 unfold Bv ask;rw[findAll hg,M4 hg,←Fp hg]
 rfl
def Hn{ab kb:OA}{ac kc:Nat}{al:List aS}{kl:List Kept}{f g:HP→LH}[i1:pa ab al.length ac L 14 (al.flatMap ak) f][i2:pa kb kl.length kc L 33 (kl.flatMap aM) g][hh:Has R L](hq:mu W R q s)
 (XD:al.length≤1000)(T':kl.length≤1000)
 (h:∀b1 c1 b2 c2,T W (own b1 (Bv al kl q).2.1.length c1 14 ((Bv al kl q).2.1.flatMap ak)::own b2 (Bv al kl q).2.2.length c2 16 ((Bv al kl q).2.2.flatMap ai)::L)
  (K (.tuple ⟨[.l b1 (Bv al kl q).2.1.length c1,.l b2 (Bv al kl q).2.2.length c2,.i (Bv al kl q).1]⟩))):
 T W L (ga ab al.length ac kb kl.length kc (eu q s) K):=by
 unfold ga
 repeat' first|apply ww|apply wm;intro _|apply wb
 refine Cz ?_;unfold Bv at h;by_cases ge:lV q=false
 ·rw[if_pos ge] at h;rw[ge]
  repeat' first|apply ww|apply wm;intro _|apply wb
  refine T.drop ?_;refine gB (e:=16) ?_;refine gB (e:=14) ?_;exact h none 0 none 0
 rw[if_neg ge] at h;have QK:lV q=true:=by simpa using ge
 rw[QK]
 repeat' first|apply ww|apply wm;intro _|apply wb
 have KP:q.op=4∨q.op=5→q.ids.length≤16:=fun ho=>by
  unfold lV at QK;rw[if_pos ho,aet,decide_eq_true_eq,decide_eq_true_eq] at QK;exact QK.2
 refine az (fun g1=>?_) (fun g1=>?_)
 ·have g1:q.op=4:=by simpa using g1
  rw[if_pos g1] at h;have:=KP (.inl g1)
  repeat' first|apply ww|apply wm;intro _|apply wb
  refine BV (R:=R) (al:=al) hq.ids (by omega) XD fun b' c' out ho=>?_;rw[←ho] at h
  repeat' first|apply ww|apply wm;intro _|apply wb
  refine gB (e:=16) ?_;refine T.swap ?_;refine T.sub (h b' c' none 0) ?_
  repeat (first|exact adP.refl _|apply adP.cons_cons|apply adP.cons)
 ·have g1: ¬q.op=4:=by simpa using g1
  rw[if_neg g1] at h
  repeat' first|apply ww|apply wm;intro _|apply wb
  refine az (fun g2=>?_) (fun g2=>?_)
  ·have g2:q.op=5:=by simpa using g2
   rw[if_pos g2] at h;have:=KP (.inr g2)
   repeat' first|apply ww|apply wm;intro _|apply wb
   refine Ar (R:=R) (al:=kl) hq.ids (by omega) T' fun b' c' out ho=>?_;rw[←ho] at h
   repeat' first|apply ww|apply wm;intro _|apply wb
   refine gB (e:=14) ?_;refine T.sub (h none 0 b' c') ?_
   repeat (first|exact adP.refl _|apply adP.cons_cons|apply adP.cons)
  ·have g2: ¬q.op=5:=by simpa using g2
   rw[if_neg g2] at h;have DV:0≤q.jt∧q.jt≤16:=by
    unfold lV at QK;rw[if_neg (by omega)] at QK;by_cases o6:q.op=6
    ·rw[if_pos o6,aet,decide_eq_true_eq] at QK;omega
    ·rw[if_neg o6] at QK;cases QK
   repeat' first|apply ww|apply wm;intro _|apply wb
   refine PU (al:=kl) T' DV fun b' c' out ho=>?_;rw[←ho] at h
   repeat' first|apply ww|apply wm;intro _|apply wb
   refine gB (e:=14) ?_;refine T.sub (h none 0 b' c') ?_
   repeat (first|exact adP.refl _|apply adP.cons_cons|apply adP.cons)
def tY{α:Type}[DecidableEq α]{l m:List α}{i:Nat}{x y:α}(hx:l[i]?=some x)(hy:m[i]?=some y)(h:l.take i=m.take i)(he:x=y):l.take (i+1)=m.take (i+1):=by
 rw[adT,adT,hx,hy,h,he]
def tZ{α:Type}{l m:List α}{i:Nat}{x y:α}(hx:l[i]?=some x)(hy:m[i]?=some y)(he: ¬x=y): ¬l=m:=fun h=>by
 rw[h,hy] at hx;injection hx with hx;exact he hx.symm
def Kf{ab kb:OA}{ac kc:Nat}{al kl:List Int}{f g:HP→LH}[i1:pa ab al.length ac L 1 (al.flatMap I1) f][i2:pa kb kl.length kc L 1 (kl.flatMap I1) g](XD:al.length≤100000)
 (h:T W L (K (.bool (decide (al=kl))))):T W L (gP ab al.length ac kb kl.length kc K):=by
 unfold gP;by_cases hlen:al.length=kl.length
 ·refine fx (by simp;omega) ?_;intro w ku;refine⟨fun vv w=>∃i:Nat,i≤al.length∧al.take i=kl.take i∧vv=[.bool false,.i (al.length:Int),.i (i:Int)]∧St W w L,fun vs _=>match vs with|[_,_,.int _ d]=>al.length-d.toNat|_=>0,⟨0,adK _,rfl,rfl,ku⟩,?_⟩;rintro b1 n1 n2 w2 ⟨i,hi,heq,e,gN⟩;cases e
  refine T.at ?_ gN;have e5:adx.wrap ((i:Int)+1)=((i+1:Nat):Int):=by rw[ah (by omega)];omega
  refine az (fun g1=>?_) (fun g1=>?_)
  ·have a8:i<al.length:=by have:=of_decide_eq_true g1;omega
   have gx:=adA a8;have gy:=adA (show i<kl.length by omega);generalize al[i]=x at gx;generalize kl[i]=y at gy;refine u2 ?_;refine bV (b:=ab) ⟨by omega,by omega⟩ fun rb hb=>?_;rw[adB];subst hb;refine u4 (g:=I1) xY gx rfl ?_;refine na ?_;refine bV (b:=kb) ⟨by omega,by omega⟩ fun ON hb=>?_;rw[adB];subst hb;refine u4 (g:=I1) xY gy rfl ?_;refine na ?_;refine az (fun g2=>?_) (fun g2=>?_)
   ·have g2:=bne_iff_ne.1 g2;rw[decide_eq_false (tZ gx gy g2)] at h;exact h
   ·have g2:x=y:=by simpa using g2
    rw[e5];exact fun w3 h3=>⟨⟨i+1,a8,tY gx gy heq g2,rfl,h3⟩,by show al.length-((i+1:Nat):Int).toNat<al.length-(i:Int).toNat;omega⟩
  ·have iM:i=al.length:=by have:=of_decide_eq_false g1;omega
   subst iM;rw[adN,hlen,adN] at heq;rw[decide_eq_true heq] at h;exact h
 ·refine lh (by rw[bne_iff_ne];omega) ?_;rw[decide_eq_false (fun hh=>hlen (by rw[hh]))] at h;exact h
def Ke{ab bb tb ub:OA}{ac bc tc uc:Nat}{a b:List aS}{t u:List Move}{f1 f2 f3 f4:HP→LH}[i1:pa ab a.length ac L 14 (a.flatMap ak) f1][i2:pa bb b.length bc L 14 (b.flatMap ak) f2]
 [i3:pa tb t.length tc L 16 (t.flatMap ai) f3][i4:pa ub u.length uc L 16 (u.flatMap ai) f4](ha:a.length≤100000)(ht:t.length≤100000)
 (h:T W L (K (.bool (decide (a=b∧t=u))))):T W L (db ab a.length ac bb b.length bc tb t.length tc ub u.length uc K):=by
 unfold db db.j1;by_cases hlen:a.length=b.length
 ·refine fx (by simp;omega) ?_;by_cases tO:t.length=u.length
  ·refine fx (by simp;omega) ?_;intro w ku;refine⟨fun vv w=>∃i:Nat,i≤a.length∧a.take i=b.take i∧vv=[.bool false,.i (a.length:Int),.i (i:Int)]∧St W w L,fun vs _=>match vs with|[_,_,.int _ d]=>a.length-d.toNat|_=>0,⟨0,adK _,rfl,rfl,ku⟩,?_⟩;rintro b1 n1 n2 w2 ⟨i,hi,heq,e,gN⟩;cases e
   refine T.at ?_ gN;have e5:adx.wrap ((i:Int)+1)=((i+1:Nat):Int):=by rw[ah (by omega)];omega
   refine az (fun g1=>?_) (fun g1=>?_)
   ·have a8:i<a.length:=by have:=of_decide_eq_true g1;omega
    have gx:=adA a8;have gy:=adA (show i<b.length by omega);generalize a[i]=x at gx;generalize b[i]=y at gy;refine u2 ?_;refine bV (b:=ab) ⟨by omega,by omega⟩ fun rb hb=>?_;rw[adB];subst hb;refine dV gL gx ?_;refine bV (b:=bb) ⟨by omega,by omega⟩ fun ON hb=>?_;rw[adB];subst hb;refine dV gL gy ?_;refine RN ?_;by_cases g2:x=y
    ·rw[decide_eq_true g2,e5];refine Aa ?_;exact fun w3 h3=>⟨⟨i+1,a8,tY gx gy heq g2,rfl,h3⟩,by show a.length-((i+1:Nat):Int).toNat<a.length-(i:Int).toNat;omega⟩
    ·rw[decide_eq_false g2];rw[decide_eq_false (fun hh:a=b∧t=u=>tZ gx gy g2 hh.1)] at h;exact h
   ·have iM:i=a.length:=by have:=of_decide_eq_false g1;omega
    subst iM;rw[adN,hlen,adN] at heq;intro w3 qL;refine⟨fun vv w=>∃i:Nat,i≤t.length∧t.take i=u.take i∧vv=[.bool false,.i (t.length:Int),.i (i:Int)]∧St W w L,fun vs _=>match vs with|[_,_,.int _ d]=>t.length-d.toNat|_=>0,⟨0,adK _,rfl,rfl,qL⟩,?_⟩;rintro b1 n1 n2 w4 ⟨i,hi,HI,e,th⟩;cases e
    refine T.at ?_ th;have e5:adx.wrap ((i:Int)+1)=((i+1:Nat):Int):=by rw[ah (by omega)];omega
    refine az (fun g1=>?_) (fun g1=>?_)
    ·have a8:i<t.length:=by have:=of_decide_eq_true g1;omega
     have gx:=adA a8;have gy:=adA (show i<u.length by omega);generalize t[i]=x at gx;generalize u[i]=y at gy;refine u2 ?_;refine bV (b:=tb) ⟨by omega,by omega⟩ fun rb hb=>?_;rw[adB];subst hb;refine dV rH gx ?_;refine bV (b:=ub) ⟨by omega,by omega⟩ fun ON hb=>?_;rw[adB];subst hb;refine dV rH gy ?_;refine Ml ?_;by_cases g2:x=y
     ·rw[decide_eq_true g2,e5];refine Aa ?_;exact fun w3 h3=>⟨⟨i+1,a8,tY gx gy HI g2,rfl,h3⟩,by show t.length-((i+1:Nat):Int).toNat<t.length-(i:Int).toNat;omega⟩
     ·rw[decide_eq_false g2];rw[decide_eq_false (fun hh:a=b∧t=u=>tZ gx gy g2 hh.2)] at h;exact h
    ·have iM:i=t.length:=by have:=of_decide_eq_false g1;omega
     subst iM;rw[adN,tO,adN] at HI;rw[decide_eq_true ⟨heq,HI⟩] at h;exact h
  ·refine lh (by rw[bne_iff_ne];omega) ?_;rw[decide_eq_false (fun hh:a=b∧t=u=>tO (by rw[hh.2]))] at h;exact h
 ·refine lh (by rw[bne_iff_ne];omega) ?_;refine tw ?_;rw[decide_eq_false (fun hh:a=b∧t=u=>hlen (by rw[hh.1]))] at h;exact h
end
section
variable {W:World} {L R M:LH} {K:VK} {X:WK} {q:jG} {s:sf} {p:Nat} {m:Model} {mb kb:OA} {mc kc:Nat}
def Kh{r1:Nat}{ob kb ab xb:OA}{oc kc ac xc:Nat}{ol al:List aS}{kl xl:List Kept}{ck st Q6 RQ:Int}{f0:LV→LH}{f1 f2 f3 f4:HP→LH}
 [i0:Lc (Sep.pt r1) L [.l ob ol.length oc,.l kb kl.length kc,.i ck,.i st] f0]
 [i1:pa ob ol.length oc L 14 (ol.flatMap ak) f1][i2:pa ab al.length ac L 14 (al.flatMap ak) f2][i3:pa kb kl.length kc L 33 (kl.flatMap aM) f3][i4:pa xb xl.length xc L 33 (xl.flatMap aM) f4](ha:ol.length≤100000)(hk:kl.length≤100000)
 (h:T W L (K (.bool (decide (ol=al∧kl=xl∧ck=Q6∧st=RQ))))):T W L (aX (some (ad r1 0)) ab al.length ac xb xl.length xc Q6 RQ K):=by
 have bad: ¬(ol=al∧kl=xl∧ck=Q6∧st=RQ)→T W L (K (.bool false)):=fun hh=>by rw[decide_eq_false hh] at h;exact h
 have j1:∀b:Bool,(b=true→¬(ol=al∧kl=xl∧ck=Q6∧st=RQ))→(b=false→ol.length=al.length∧kl.length=xl.length∧ck=Q6∧st=RQ)→T W L (aX.j1 K al.length (some (ad r1 0)) ab xl.length xb b):=fun b O8 tQ=>by
  unfold aX.j1;cases b with
  |true=>exact bad (O8 rfl)
  |false=>
   obtain⟨Xc,Qv,Xt,qz⟩:=tQ rfl;refine q8 ?_;intro w ku;refine⟨fun vv w=>∃i:Nat,i≤al.length∧ol.take i=al.take i∧vv=[.bool false,.i (al.length:Int),.i (i:Int)]∧St W w L,fun vs _=>match vs with|[_,_,.int _ d]=>al.length-d.toNat|_=>0,⟨0,adK _,rfl,rfl,ku⟩,?_⟩;rintro b1 n1 n2 w2 ⟨i,hi,heq,e,gN⟩;cases e
   refine T.at ?_ gN;have e5:adx.wrap ((i:Int)+1)=((i+1:Nat):Int):=by rw[ah (by omega)];omega
   refine az (fun g1=>?_) (fun g1=>?_)
   ·have a8:i<al.length:=by have:=of_decide_eq_true g1;omega
    have gx:=adA (show i<ol.length by omega);have gy:=adA a8;generalize ol[i]=x at gx;generalize al[i]=y at gy;refine u2 ?_;refine yS ?_;refine kB (i:=i0) rfl ?_;refine tt ?_;refine bV (b:=ob) ⟨by omega,by omega⟩ fun rb hb=>?_;rw[adB];subst hb;refine dV gL gx ?_;refine bV (b:=ab) ⟨by omega,by omega⟩ fun ON hb=>?_;rw[adB];subst hb;refine dV gL gy ?_;refine RN ?_;by_cases g2:x=y
    ·rw[decide_eq_true g2,e5];refine Aa ?_;exact fun w3 h3=>⟨⟨i+1,a8,tY gx gy heq g2,rfl,h3⟩,by show al.length-((i+1:Nat):Int).toNat<al.length-(i:Int).toNat;omega⟩
    ·rw[decide_eq_false g2];exact bad fun hh=>tZ gx gy g2 hh.1
   ·have iM:i=al.length:=by have:=of_decide_eq_false g1;omega
    subst iM;rw[adN,←Xc,adN] at heq;intro w3 qL;refine⟨fun vv w=>∃i:Nat,i≤xl.length∧kl.take i=xl.take i∧vv=[.bool false,.i (xl.length:Int),.i (i:Int)]∧St W w L,fun vs _=>match vs with|[_,_,.int _ d]=>xl.length-d.toNat|_=>0,⟨0,adK _,rfl,rfl,qL⟩,?_⟩;rintro b1 n1 n2 w4 ⟨i,hi,HI,e,th⟩;cases e
    refine T.at ?_ th;have e5:adx.wrap ((i:Int)+1)=((i+1:Nat):Int):=by rw[ah (by omega)];omega
    refine az (fun g1=>?_) (fun g1=>?_)
    ·have a8:i<xl.length:=by have:=of_decide_eq_true g1;omega
     have gx:=adA (show i<kl.length by omega);have gy:=adA a8;generalize kl[i]=x at gx;generalize xl[i]=y at gy;refine u2 ?_;refine yS ?_;refine zZ ?_;refine kB (i:=i0) (o:=1) rfl ?_;refine tt ?_;refine bV (b:=kb) ⟨by omega,by omega⟩ fun rb hb=>?_;rw[adB];subst hb;refine dV hG gx ?_;refine bV (b:=xb) ⟨by omega,by omega⟩ fun ON hb=>?_;rw[adB];subst hb;refine dV hG gy ?_;refine V8 ?_;by_cases g2:x=y
     ·rw[decide_eq_true g2,e5];refine Aa ?_;exact fun w3 h3=>⟨⟨i+1,a8,tY gx gy HI g2,rfl,h3⟩,by show xl.length-((i+1:Nat):Int).toNat<xl.length-(i:Int).toNat;omega⟩
     ·rw[decide_eq_false g2];exact bad fun hh=>tZ gx gy g2 hh.2.1
    ·have iM:i=xl.length:=by have:=of_decide_eq_false g1;omega
     subst iM;rw[adN,←Qv,adN] at HI;rw[decide_eq_true ⟨heq,HI,Xt,qz⟩] at h;exact h
 unfold aX aX.j2 aX.j3;refine yS ?_;refine kB (i:=i0) rfl ?_;refine tt ?_;by_cases hlen:ol.length=al.length
 ·refine fx (by simp;omega) ?_;refine yS ?_;refine zZ ?_;refine kB (i:=i0) (o:=1) rfl ?_;refine tt ?_;by_cases tO:kl.length=xl.length
  ·refine fx (by simp;omega) ?_;refine yS ?_;refine zZ ?_;refine kB (i:=i0) (o:=2) rfl ?_;refine na ?_;by_cases hc:ck=Q6
   ·refine fx (by simpa using hc) ?_;refine yS ?_;refine zZ ?_;refine kB (i:=i0) (o:=3) rfl ?_;refine na ?_;refine j1 _ (fun hb=>?_) (fun hb=>⟨hlen,tO,hc,by simpa using hb⟩);have:=bne_iff_ne.1 hb;exact fun hh=>this hh.2.2.2
   ·refine lh (by simpa using hc) ?_;exact j1 true (fun _ hh=>hc hh.2.2.1) (fun hb=>by cases hb)
  ·refine lh (by rw[bne_iff_ne];omega) ?_;refine tw ?_;exact j1 true (fun _ hh=>tO (by rw[hh.2.1])) (fun hb=>by cases hb)
 ·refine lh (by rw[bne_iff_ne];omega) ?_;refine tw ?_;refine tw ?_;exact j1 true (fun _ hh=>hlen (by rw[hh.1])) (fun hb=>by cases hb)
def PO{ab xb:OA}{ac xc:Nat}{al:List aS}{xl:List Kept}{Q6 RQ:Int}{f2 f4:HP→LH}(hm:RM m)
 [i2:pa ab al.length ac R 14 (al.flatMap ak) f2][i4:pa xb xl.length xc R 33 (xl.flatMap aM) f4]
 (h:T W (ML p m mb mc kb kc R) (K (.bool (decide (m.made.map m.full=al∧m.kept=xl∧m.clock=Q6∧m.af=RQ))))):T W (ML p m mb mc kb kc R) (dL (some ⟨p,0,none⟩) ab al.length ac xb xl.length xc Q6 RQ K):=by
 unfold dL;have hmf:=hm.mC;have hmm:=hm.many
 repeat' first|apply ww|apply wm;intro _|apply wb
 refine yj (by omega) (by omega) hm.Vo hm.Wi fun ob oc=>?_
 repeat' first|apply ww|apply wm;intro _|apply wb
 rename_i r1;have OX:m.made.length=(m.made.map m.full).length:=(ad1 _).symm;rw[OX];refine Kh (ob:=ob) (ol:=m.made.map m.full) (kl:=m.kept) (by rw[ad1];omega) (by omega) ?_
 repeat' first|apply ww|apply wm;intro _|apply wb
 refine T.drop ?_;refine T.sub h ?_;exact nZ
end
instance{e:Int}{rb ab tb:OA}{rn rc an ac tn tc:Nat}:Sub (oo e rb rn rc ab an ac tb tn tc) 0 4 (oo e rb rn rc ab an ac tb tn tc):=⟨rfl,fun j v h=>by rw[adE];exact h⟩
instance{x1 x2 x3 x4:Value}{e:Int}{rb ab tb:OA}{rn rc an ac tn tc:Nat}:Wr [x1,x2,x3,x4] 0 (oo e rb rn rc ab an ac tb tn tc) (oo e rb rn rc ab an ac tb tn tc):=⟨rfl,adG _,fun v hv=>by simp[oo] at hv;rcases hv with rfl|rfl|rfl|rfl<;>rfl⟩
section
variable {W:World} {L R M:LH} {K:VK} {X:WK} {q:jG} {s:sf} {p:Nat} {m:Model} {mb kb:OA} {mc kc:Nat}
def T.un2{A B:HP}(h:T W (ML p m mb mc kb kc (A::B::R)) X):T W (A::B::ML p m mb mc kb kc R) X:=
 T.perm h (adJ (l₁:=[A,B]) (l₂:=[_,_,_])|>.append_right R)
def SY{e:Int}{rb ab tb:OA}{rc ac tc:Nat}{res:List Int}{al:List aS}{tl:List Move}{f1 f2 f3:HP→LH}(hg:Good (bo m))(r9:Md.Ground m)
 [i1:pa rb res.length rc R 1 (res.flatMap I1) f1][i2:pa ab al.length ac R 14 (al.flatMap ak) f2][i3:pa tb tl.length tc R 16 (tl.flatMap ai) f3](hlr:res.length≤10000)(y5:al.length≤10000)(a8:tl.length≤10000)
 (hq:mu W R q s)(TX:q.ag.length<1000000)(Y0:q.aW.length<1000000)(hA:∀a∈q.ag,vy a)(hT:∀t∈q.aW,uY t)
 (VN:eX q=false→T W (ML p m mb mc kb kc R) (K (.tuple ⟨[.bool (decide (e=(ask m q).1∧(al=(ask m q).2.1∧tl=(ask m q).2.2)∧res=[])),.p (some ⟨p,0,none⟩)]⟩)))
 (hB:eX q=true→iA q=false→T W (ML p m mb mc kb kc R) (K (.tuple ⟨[.bool (decide (e=1∧res=[])),.p (some ⟨p,0,none⟩)]⟩)))
 (hC:eX q=true→iA q=true→e=0→∀p2 nT nS jd jc R',Bk p m mb mc kb kc R p2 (aK m q).2.2 nT nS jd jc R'→RM (aK m q).2.2→T W (ML p2 (aK m q).2.2 nT nS jd jc R') (K (.tuple ⟨[.bool (decide ((aK m q).1=0∧res=(aK m q).2.1)),.p (some ⟨p2,0,none⟩)]⟩)))
 (hD:eX q=true→iA q=true→e≠0→T W (ML p m mb mc kb kc R) (K (.tuple ⟨[.bool (decide ((e=8∨e=9∨e=6∨e=3)∧res=[]∧al=[]∧tl=[])),.p (some ⟨p,0,none⟩)]⟩))):
 T W (ML p m mb mc kb kc R) (aw (oo e rb res.length rc ab al.length ac tb tl.length tc) (some ⟨p,0,none⟩) (eu q s) K):=by
 have hm:=RM.I8 hg r9;have hmf:=hm.mC;have hmm:=hm.many;have WG:∀{α:Type}(l:List α),(((l.length:Nat):Int)==0)=decide (l=[]):=fun l=>by
  rw[adX,beq_iff_eq,decide_eq_true_eq,←List.length_eq_zero_iff];omega
 unfold aw
 repeat' first|apply ww|apply wm;intro _|apply wb
 refine Fg ?_;cases he:eX q with
 |false=>
  have VN:=VN he
  repeat' first|apply ww|apply wm;intro _|apply wb
  rename_i r1 r2;refine T.un2 ?_;refine yj (by omega) (by omega) hm.Vo hm.Wi fun ob oc=>?_
  repeat' first|apply ww|apply wm;intro _|apply wb
  have OX:m.made.length=(m.made.map m.full).length:=(ad1 _).symm;have aaK:(m.made.map m.full).length≤1000:=by rw[ad1];omega
  rw[OX];have aaH:Bv (m.made.map m.full) m.kept q=ask m q:=by
   rw[←Ri hg];have:m.made.map m.full=(bo m).ag:=aeR fun a ha=>r9.full ha;rw[this];rfl
  refine Hn (R:=R) (al:=m.made.map m.full) (kl:=m.kept) hq aaK (by omega) fun b1 c1 b2 c2=>?_;rw[aaH];refine S4 ?_
  repeat' first|apply ww|apply wm;intro _|apply wb
  have j2:∀b:Bool,b=decide (e=(ask m q).1∧(al=(ask m q).2.1∧tl=(ask m q).2.2))→T W (own b1 (ask m q).2.1.length c1 14 ((ask m q).2.1.flatMap ak)::own b2 (ask m q).2.2.length c2 16 ((ask m q).2.2.flatMap ai)::ML p m mb mc kb kc (own ob (m.made.map m.full).length oc 14 ((m.made.map m.full).flatMap ak)::Sep.pt r2 (eu q s)::Sep.pt r1 (oo e rb res.length rc ab al.length ac tb tl.length tc)::R)) (aw.j2 K r1 (some ⟨p,0,none⟩) b):=fun b hb=>by
   unfold aw.j2 aw.j1;cases b with
   |true=>
    have hb:=of_decide_eq_true hb.symm
    repeat' first|apply ww|apply wm;intro _|apply wb
    rw[WG];have e1:decide (res=[])=decide (e=(ask m q).1∧(al=(ask m q).2.1∧tl=(ask m q).2.2)∧res=[]):=by rw[decide_eq_decide];exact⟨fun h=>⟨hb.1,hb.2,h⟩,fun h=>h.2.2⟩
    rw[e1];refine T.sub VN ?_;exact nZ
   |false=>
    have hb:=of_decide_eq_false hb.symm;have e1:false=decide (e=(ask m q).1∧(al=(ask m q).2.1∧tl=(ask m q).2.2)∧res=[]):=(decide_eq_false (fun h=>hb ⟨h.1,h.2.1⟩)).symm
    repeat' first|apply ww|apply wm;intro _|apply wb
    rw[e1];refine T.sub VN ?_;exact nZ
  refine az (fun g1=>?_) (fun g1=>?_)
  ·have g1:e=(ask m q).1:=by simpa using g1
   repeat' first|apply ww|apply wm;intro _|apply wb
   refine Ke (a:=al) (b:=(ask m q).2.1) (t:=tl) (u:=(ask m q).2.2) (by omega) (by omega) ?_;refine qC ?_;refine j2 _ ?_;rw[decide_eq_decide];exact⟨fun h=>⟨g1,h⟩,fun h=>h.2⟩
  ·have g1: ¬e=(ask m q).1:=by simpa using g1
   exact j2 false (decide_eq_false (fun h=>g1 h.1)).symm
 |true=>
  have hB:=hB he;have hC:=hC he;have hD:=hD he
  repeat' first|apply ww|apply wm;intro _|apply wb
  rename_i r1 r2;refine T.un2 ?_;refine Kd (R:=R) hq TX Y0 ?_;cases hw:iA q with
  |false=>
   have hB:=hB hw
   repeat' first|apply ww|apply wm;intro _|apply wb
   unfold aw.j3;refine az (fun g1=>?_) (fun g1=>?_)
   ·have g1:e=1:=by simpa using g1
    repeat' first|apply ww|apply wm;intro _|apply wb
    rw[WG];have e1:decide (res=[])=decide (e=1∧res=[]):=by rw[decide_eq_decide];exact⟨fun h=>⟨g1,h⟩,fun h=>h.2⟩
    rw[e1];refine T.sub hB ?_;exact nZ
   ·have g1: ¬e=1:=by simpa using g1
    have e1:false=decide (e=1∧res=[]):=(decide_eq_false (fun h=>g1 h.1)).symm;rw[e1];refine T.sub hB ?_;exact nZ
  |true=>
   have hC:=hC hw;have hD:=hD hw
   repeat' first|apply ww|apply wm;intro _|apply wb
   refine PT hm ⟨hq.ag.mono,hq.aW.mono,hq.ids.mono,hq.ca,hq.ct,hq.ci⟩ TX Y0 (fun _=>hA) (fun _=>hT) fun p2 nT nS jd jc ob oc R' zx TU=>?_;refine S4 ?_;have hR2:∃g1 g2 g3,∃(_:pa rb res.length rc R' 1 (res.flatMap I1) g1)(_:pa ab al.length ac R' 14 (al.flatMap ak) g2)(_:pa tb tl.length tc R' 16 (tl.flatMap ai) g3),∃g4,Lc (Sep.pt r1) R' (oo e rb res.length rc ab al.length ac tb tl.length tc) g4:=by
    rcases zx with⟨rfl,-⟩|rfl
    ·exact⟨_,_,_,inferInstance,inferInstance,inferInstance,_,inferInstance⟩
    ·exact⟨_,_,_,inferInstance,inferInstance,inferInstance,_,inferInstance⟩
   obtain⟨g1,g2,g3,k1,k2,k3,g4,k4⟩:=hR2;have fC:e=0→T W (ML p2 (aK m q).2.2 nT nS jd jc R') (K (.tuple ⟨[.bool (decide ((aK m q).1=0∧res=(aK m q).2.1)),.p (some ⟨p2,0,none⟩)]⟩)):=fun h0=>by
    rcases zx with⟨rfl,rfl,GW,rfl,rfl,rfl,rfl⟩|rfl
    ·refine T.sub (hC h0 p2 nT nS jd jc R (.inl ⟨rfl,rfl,GW,rfl,rfl,rfl,rfl⟩) TU) ?_;exact nZ
    ·refine T.sub (hC h0 p2 nT nS jd jc _ (.inr rfl) TU) ?_;exact nZ
   have fD:e≠0→∀b:Bool,b=decide ((e=8∨e=9∨e=6∨e=3)∧res=[]∧al=[]∧tl=[])→T W (ML p2 (aK m q).2.2 nT nS jd jc R') (K (.tuple ⟨[.bool b,.pointer (some ⟨p,0,none⟩)]⟩)):=fun h0 b hb=>by
    rw[hb];have hD:=hD h0;rcases zx with⟨rfl,rfl,GW,rfl,rfl,rfl,rfl⟩|rfl
    ·rw[GW];refine T.sub hD ?_;exact nZ
    ·refine T.sub hD ?_;refine adP.trans ?_ (List.sublist_append_right [Sep.pt p2 (yY (aK m q).2.2 nT nS jd jc),own nT (aK m q).2.2.made.length nS 14 ((aK m q).2.2.made.flatMap ak),own jd (aK m q).2.2.kept.length jc 33 ((aK m q).2.2.kept.flatMap aM)] _);exact nZ
   repeat' first|apply ww|apply wm;intro _|apply wb
   unfold aw.j4;have hj6:e≠0→∀b:Bool,b=decide (e=8∨e=9)→T W (ML p2 (aK m q).2.2 nT nS jd jc (own ob (aK m q).2.1.length oc 1 ((aK m q).2.1.flatMap I1)::R')) (aw.j6 K r1 (some ⟨p,0,none⟩) b):=fun h0 b hb=>by
    have fin:∀b:Bool,b=decide (e=8∨e=9∨e=6∨e=3)→T W (ML p2 (aK m q).2.2 nT nS jd jc (own ob (aK m q).2.1.length oc 1 ((aK m q).2.1.flatMap I1)::R')) (aw.j5 K r1 (some ⟨p,0,none⟩) b):=fun b hb=>by
     unfold aw.j5;cases b with
     |true=>
      have hb:=of_decide_eq_true hb.symm
      repeat' first|apply ww|apply wm;intro _|apply wb
      refine T.sub (fD h0 _ ?_) ?_
      ·rw[ah (n:=(res.length:Int)+(al.length:Int)) (by omega),ah (by omega),adX,beq_iff_eq,decide_eq_true_eq,←List.length_eq_zero_iff,←List.length_eq_zero_iff,←List.length_eq_zero_iff]
       constructor
       ·intro h;exact⟨hb,by omega,by omega,by omega⟩
       ·intro h;omega
      ·exact nZ
     |false=>
      have hb:=of_decide_eq_false hb.symm
      repeat' first|apply ww|apply wm;intro _|apply wb
      refine T.sub (fD h0 _ (decide_eq_false (fun h=>hb h.1)).symm) ?_;exact nZ
    unfold aw.j6;cases b with
    |true=>
     have hb:=of_decide_eq_true hb.symm;exact fin true (decide_eq_true (by omega)).symm
    |false=>
     have hb:=of_decide_eq_false hb.symm
     repeat' first|apply ww|apply wm;intro _|apply wb
     refine az (fun g1=>?_) (fun g1=>?_)
     ·have g1:e=6:=by simpa using g1
      exact fin true (decide_eq_true (by omega)).symm
     ·have g1: ¬e=6:=by simpa using g1
      repeat' first|apply ww|apply wm;intro _|apply wb
      refine fin _ ?_;rw[adX,beq_iff_eq,decide_eq_true_eq];omega
   refine az (fun g1=>?_) (fun g1=>?_)
   ·have g1:e=0:=by simpa using g1
    refine az (fun g2=>?_) (fun g2=>?_)
    ·have g2:(aK m q).1=0:=by simpa using g2
     repeat' first|apply ww|apply wm;intro _|apply wb
     refine Kf (al:=res) (kl:=(aK m q).2.1) (by omega) ?_;refine qC ?_;have e1:decide (res=(aK m q).2.1)=decide ((aK m q).1=0∧res=(aK m q).2.1):=by rw[decide_eq_decide];exact⟨fun h=>⟨g2,h⟩,fun h=>h.2⟩
     rw[e1];refine T.sub (fC g1) ?_;exact nZ
    ·have g2: ¬(aK m q).1=0:=by simpa using g2
     have e1:false=decide ((aK m q).1=0∧res=(aK m q).2.1):=(decide_eq_false (fun h=>g2 h.1)).symm;rw[e1];refine T.sub (fC g1) ?_;exact nZ
   ·have g1: ¬e=0:=by simpa using g1
    repeat' first|apply ww|apply wm;intro _|apply wb
    refine az (fun g2=>?_) (fun g2=>?_)
    ·have g2:e=8:=by simpa using g2
     exact hj6 g1 true (decide_eq_true (by omega)).symm
    ·have g2: ¬e=8:=by simpa using g2
     repeat' first|apply ww|apply wm;intro _|apply wb
     refine hj6 g1 _ ?_;rw[adX,beq_iff_eq,decide_eq_true_eq];omega
end
end Go.Up
namespace Go.Sep
open Go.Den Go.RowKit Go.Prog Go.bI
section
variable {W w:World} {L:LH}
end
def JC{D:aA}{number:Int}{h:dU}(hg:kO h):∃a:Nat,(a:Int)=low h.aF∧a<2∧pI D number h=cR D a (a+1:Nat) number (bs (iH h)):=by
 have hl:=re h.aF;refine⟨(low h.aF).toNat,by omega,by omega,?_⟩;unfold pI cR;rw[if_pos hg];have e1:(((low h.aF).toNat:Nat):Int)=low h.aF:=by omega
 have e2:(((low h.aF).toNat+1:Nat):Int)=low h.aF+1:=by omega
 rw[e1,e2]
def Bj(h:dU):dX (bs (iH h)).size=1:=by rw[bF,mX];rfl
def CC(h:dU):part (bs (iH h)) 0=bs (iH h):=by
 apply je;unfold part;rw[extract_toList,Nat.mul_zero,aeJ,adS];show(iH h).length≤_;rw[mX];decide
def Gy{D:aA}{i:Nat}{n:Int}{h:dU}(hn:1≤n∧n≤1152921504606846976)(hg:kO h)(hi:(i:Int)=low h.aF)(hr:D.read (i:Int)=(leaf n 0 (bs (iH h)),0)):vt D i=some h:=by
 have vj:Good n 0 (bs (iH h)):=⟨hn.1,hn.2,by decide,by decide,by rw[bF,mX];decide⟩;unfold vt;rw[hr];dsimp only;rw[kr vj,lY vj];dsimp only;rw[if_neg (by simp),show(bs (iH h)).data.toList=iH h from rfl,FY hg];dsimp only;rw[if_neg (fun hh=>hh hi.symm)]
def Bu{D:aA}{i:Nat}(hr:jH (D.read (i:Int)).1.data.toList=none):vt D i=none:=by
 unfold vt;rw[hr]
def FB{n:Int}(h:0≤n∧n≤1152921504606846977):low n=n.tmod 2:=by
 obtain⟨m,rfl⟩:=adL h.1;have e:m%2^64=m:=aej (by omega);rw[Jc,BitVec.ofInt_natCast,BitVec.toNat_ofNat,e,aei (by omega)];omega
def uj{D:aA}{i:Nat}(h:i<D.safe.length):(D.read (i:Int)).2=0:=by
 unfold aA.read;rw[if_pos ⟨by omega,by omega⟩]
section
variable {W w:World} {L:LH}
end
def rZ(a:dU×dU)(h:dU):dU×dU:=if low h.aF=0 then(h,a.2) else(a.1,h)
def xO{D D':aA}{i:Nat}(h1:i<D.safe.length)(h2:i<D'.safe.length)(h:(D'.read (i:Int)).1=(D.read (i:Int)).1):vt D' i=vt D i:=by
 have e:D'.read (i:Int)=D.read (i:Int):=by
  have a:=uj h1;have b:=uj h2;exact Prod.ext h (by rw[a,b])
 unfold vt;rw[e]
def uR(h:dU):∀v∈aU h,v.oneCell'=true:=by simp[aU,Value.oneCell']
section
variable {W w:World} {L:LH} {k:Nat}
end
end Go.Sep
namespace Go.Up
open Go.Sep Go.Den Go.RowKit Go.Prog Go.Md Go.bI
def AQ{n:Nat}{D D':aA}{J:PJ}{q0:Int}{mg:List (List UInt8)}{g g':Nat}(h:JG n D J q0 mg g)(ik:D'.Ok)(xC:D'.later=[])(hlen:D'.safe.length=n)
 (hr:∀j:Int,J.lo≤j→j<J.hi→(D'.read j).1=(D.read j).1)(he:∀j:Nat,j<n→Sep.Ends g' (D'.read (j:Int)).1):JG n D' J q0 mg g':=by
 have hl:D'.safe.length=D.safe.length:=by rw[hlen,h.len]
 have j2:=h.uH.EB;have j3:=h.uH.N9;refine⟨ik,xC,hlen,⟨h.uH.lo,j2,j3,by rw[hl];exact h.uH.hi,h.uH.seq⟩,qV hl _ h.chain (fun j a b=>hr j (by omega) (by omega)),h.seq,h.q0,fun j a b m d hv=>?_,?_,he⟩
 ·rw[hr j a b] at hv;exact h.low j a b m d hv
 ·rw[ym hl (fun j a b=>hr j (by omega) (by omega))];exact h.stop
def Hz{n:Nat}{D:aA}{J:PJ}{q0:Int}{mg:List (List UInt8)}{g:Nat}(h:JG n D J q0 mg g):JG n D {J with at':=J.lo} J.seq [] g:=by
 have hq0:=h.q0;have B3:=h.seq;have j2:=h.uH.EB;have j3:=h.uH.N9;refine⟨h.ok,h.GS,h.len,⟨h.uH.lo,ae5 _,by show J.lo≤J.hi;omega,h.uH.hi,h.uH.seq⟩,rfl,by show J.seq=J.seq+_;simp,h.uH.seq.1,h.low,?_,h.ends⟩;show jI D J.lo J.hi (J.seq+1)=none;cases DS:mg with
 |nil=>
  have DY:=h.chain;rw[DS] at DY;unfold Sep.iJ at DY;rw[DY];exact h.stop
 |cons s r=>
  have DY:=h.chain;rw[DS] at DY;obtain⟨a2,h1,h2⟩:=DY;obtain⟨m,d,x1,x2,hv,KH⟩:=CI (by omega) h1;obtain⟨i1,i2,i3,i4,i5,i6⟩:=mO h1;have Nr:=ox (12+s.length);have yt:=h.uH.seq;have vD:=h.uH.hi;have hlen:=h.ok.mC;have TY:=qH (seq:=q0+1) (s:=bs s) ⟨by omega,by
   have:(mg.length:Int)≥1:=by rw[DS,adW];omega
   omega⟩ (by rw[bF];omega)
  refine xo (fun m2 d2 Qp=>?_);rw[hv] at Qp;simp only[adU.injEq,Prod.mk.injEq] at Qp;obtain⟨-,-,rfl⟩:=Qp;have No:Sep.Good m ((0:Nat):Int) (Sep.part (bs (bO (q0+1) (bs s))) 0):=⟨x1,x2,by omega,by omega,ko _ 0⟩;have r0:=KH 0 Nr;rw[show J.lo+((0:Nat):Int)=J.lo from by omega] at r0;rw[r0,kr No,lY No] at hv;simp only[adU.injEq,Prod.mk.injEq] at hv;obtain⟨-,-,hd⟩:=hv;rw[←hd,TY.1];rw[DS,adW] at B3;omega
def YM(L:aA×Int)(D':aA):Prop:=(∃mask torn cut,D'=L.1.ie mask torn cut)∨(L.2=0∧D'=L.1)
def YT{n a t m g:Nat}{D D':aA}{s:BA}(ik:D.Ok)(xC:D.later=[])(hlen:D.safe.length=n)(nV:∀j:Nat,j<n→Sep.Ends g (D.read (j:Int)).1)(bZ:n≤4096)(hm:g<m)(Js:m<256)(hl:a+dX s.size≤t)(TN:t≤n)
 (hA:YM (cR D (a:Int) (t:Int) (m:Int) s) D'):
 D'.Ok∧D'.later=[]∧D'.safe.length=n∧(∀j:Nat,j<n→Sep.Ends m (D'.read (j:Int)).1)∧(∀j:Nat,j<n→(j<a∨a+dX s.size≤j)→(D'.read (j:Int)).1=(D.read (j:Int)).1)∧
  ((cR D (a:Int) (t:Int) (m:Int) s).2=0→∀q:Nat,q<dX s.size→(D'.read ((a+q:Nat):Int)).1=leaf m q (Sep.part s q))∧
  (∀q:Nat,q<dX s.size→(D'.read ((a+q:Nat):Int)).1=(D.read ((a+q:Nat):Int)).1∨(D'.read ((a+q:Nat):Int)).1=leaf m q (Sep.part s q)∨jH (D'.read ((a+q:Nat):Int)).1.data.toList=none):=by
 have Xq:=ox s.size;have key:∀mask torn cut:Int,∀X:aA,X=(cR D (a:Int) (t:Int) (m:Int) s).1.ie mask torn cut→X.Ok∧X.later=[]∧X.safe.length=n∧(∀j:Nat,j<n→Sep.Ends m (X.read (j:Int)).1)∧(∀j:Nat,j<n→(j<a∨a+dX s.size≤j)→(X.read (j:Int)).1=(D.read (j:Int)).1)∧
  ((cR D (a:Int) (t:Int) (m:Int) s).2=0→∀q:Nat,q<dX s.size→(X.read ((a+q:Nat):Int)).1=leaf m q (Sep.part s q))∧
  (∀q:Nat,q<dX s.size→(X.read ((a+q:Nat):Int)).1=(D.read ((a+q:Nat):Int)).1∨(X.read ((a+q:Nat):Int)).1=leaf m q (Sep.part s q)∨jH (X.read ((a+q:Nat):Int)).1.data.toList=none):=fun mask torn cut X hX=>by
  obtain⟨c1,c2,c3,c4⟩:=Fz (n:=n) (a:=a) (t:=t) (number:=(m:Int)) (mask:=mask) (torn:=torn) (cut:=cut) (s:=s) ik xC hlen bZ (by omega) hl TN;rw[←hX] at c1 c2 c3 c4;have vj:∀i:Nat,i<4096→Sep.Good (m:Int) (i:Int) (Sep.part s i):=fun i hi=>⟨by omega,by omega,by omega,by omega,ko _ i⟩;have Xa:X.later=[]:=by rw[hX,nu]
  refine⟨c3,Xa,c4,fun j hj=>?_,fun j hj tg=>?_,c2,fun q hq=>?_⟩
  ·rcases c1 j hj with hh|⟨i,h1,h2,h3⟩
   ·rw[hh];exact(nV j hj).mono (by omega)
   ·exact(xr hm Js (vj i (by omega)) (nV j hj) h3).1
  ·rcases c1 j hj with hh|⟨i,h1,h2,h3⟩
   ·exact hh
   ·omega
  ·rcases c1 (a+q) (by omega) with hh|⟨i,h1,h2,h3⟩
   ·exact .inl hh
   ·have:i=q:=by omega
    subst this;exact(xr hm Js (vj i (by omega)) (nV (a+i) (by omega)) h3).2
 rcases hA with⟨mask,torn,cut,hX⟩|⟨h0,hX⟩
 ·exact key mask torn cut D' hX
 ·have hlz:=Ja h0;obtain⟨k1,k2,k3,k4,k5,k6,k7⟩:=key 0 (-1) 0 _ rfl;have OU:∀j:Int,((cR D (a:Int) (t:Int) (m:Int) s).1.ie 0 (-1) 0).read j=D'.read j:=fun j=>by rw[hX];exact Bh hlz 0 (-1) 0 j
  refine⟨by rw[hX];exact Fy ik (by rw[xC,ad6];omega),by rw[hX];exact hlz,by rw[hX,←rT _ 0 (-1) 0];exact k3,fun j hj=>by rw[←OU];exact k4 j hj,fun j hj ho=>by rw[←OU];exact k5 j hj ho,fun h q hq=>by rw[←OU];exact k6 h q hq,fun q hq=>by rw[←OU];exact k7 q hq⟩
def CG(n:Nat)(D:aA)(hd:dU)(mb:Model):Prop:=
 (hd=zM∧mb=pE∧vt D 0=none∧vt D 1=none)∨
 (kO hd∧(∃(a:Nat)(k:Int),(a:Int)=low hd.aF∧1≤k∧k≤1152921504606846976∧(D.read (a:Int)).1=leaf k 0 (bs (iH hd))∧(∀p,vt D (1-a)=some p→p.aF<hd.aF))∧
  hd.size=((bm (bo mb)).length:Int)∧dX (bm (bo mb)).length≤bN n∧∀q:Nat,q<dX (bm (bo mb)).length→(D.read ((cU n hd.aF+q:Nat):Int)).1=leaf hd.number q (Sep.part (bs (bm (bo mb))) q))
def CG.base{n:Nat}{D:aA}{hd:dU}{mb:Model}(h:CG n D hd mb)(hlen:D.safe.length=n)(nA:12≤n)(bZ:n≤4096):Vh D n hd mb:=by
 rcases h with⟨h1,h2,h3,h4⟩|⟨hg,⟨a,k,ha,O0,rj,hr,hp⟩,hs,hc,hq⟩
 ·left
  rw[h3,h4];exact⟨rfl,h1,h2⟩
 ·right
  have FV:=re hd.aF;have eA:vt D a=some hd:=Gy (n:=k) ⟨O0,rj⟩ hg ha (by
   have:=uj (D:=D) (i:=a) (by omega)
   rw[←hr,←this])
  constructor
  ·by_cases ha0:a=0
   ·subst ha0;rw[eA];cases hb:vt D 1 with
    |none=>rfl
    |some p=>
     have:=hp p hb;show(if hd.aF<p.aF then some p else some hd)=some hd;rw[if_neg (by omega)]
   ·have:a=1:=by omega
    subst this;rw[eA];cases hb:vt D 0 with
    |none=>rfl
    |some p=>
     have:=hp p hb;show(if p.aF<hd.aF then some hd else some p)=some hd;rw[if_pos this]
  ·have:=QJ (n:=n) (D:=D) (which:=hd.aF) (number:=hd.number) (s:=bs (bm (bo mb))) hlen nA bZ ⟨hg.2.2.1,hg.2.2.2.1⟩ (by rw[bF];exact hc) (fun q WW=>by
    rw[show(((cU n hd.aF:Nat):Int)+(q:Int))=((cU n hd.aF+q:Nat):Int) from by omega]
    exact hq q WW)
   rw[bF,←hs] at this;exact this
def CG.kY{n:Nat}{D D':aA}{hd:dU}{mb:Model}(h:CG n D hd mb)(nA:12≤n)(hlen:D.safe.length=n)(W9:D'.safe.length=n)
 (h01:∀j:Nat,j<2→(D'.read (j:Int)).1=(D.read (j:Int)).1)(R6:∀j:Nat,cU n hd.aF≤j→j<cU n hd.aF+bN n→(D'.read (j:Int)).1=(D.read (j:Int)).1):CG n D' hd mb:=by
 have vE:∀i:Nat,i<2→vt D' i=vt D i:=fun i hi=>xO (by omega) (by omega) (h01 i hi);rcases h with⟨h1,h2,h3,h4⟩|⟨hg,⟨a,k,ha,O0,rj,hr,hp⟩,hs,hc,hq⟩
 ·exact .inl ⟨h1,h2,by rw[vE 0 (by decide)];exact h3,by rw[vE 1 (by decide)];exact h4⟩
 ·have FV:=re hd.aF;refine .inr ⟨hg,⟨a,k,ha,O0,rj,by rw[h01 a (by omega)];exact hr,fun p Nj=>hp p (by rw[←vE (1-a) (by omega)];exact Nj)⟩,hs,hc,fun q WW=>?_⟩;rw[R6 _ (by omega) (by omega)];exact hq q WW
structure VG(n:Nat)(D:aA)(J:PJ)(hd:dU)(mb:Model)(qs:List jG)(g:Nat):Prop where
 jg:JG n D J hd.seq (qs.map cr) g
 cg:CG n D hd mb
 lo:J.lo=((2+2* bN n:Nat):Int)
 hi:J.hi=(n:Int)
 fJ:J.fJ=false
 vl:Good (bo mb)
 ground:Md.Ground mb
 mg:∀q∈qs,Dl q
 Hg:J.seq≤g
 aF:0≤hd.aF∧hd.aF≤g
def VG.mono{n:Nat}{D:aA}{J:PJ}{hd:dU}{mb:Model}{qs:List jG}{g g':Nat}(h:VG n D J hd mb qs g)(hg:g≤g'):VG n D J hd mb qs g':=
 ⟨h.jg.mono hg,h.cg,h.lo,h.hi,h.fJ,h.vl,h.ground,h.mg,by have:=h.Hg;omega,by have:=h.aF;omega⟩
def Il{n:Nat}(nA:12≤n)(bZ:n≤4096):VG n (aA.new n) ⟨((2+2* bN n:Nat):Int),n,((2+2* bN n:Nat):Int),0,false⟩ zM pE [] 0:=by
 have hb:2+2* bN n<n:=by unfold bN;omega
 have hz:∀i:Nat,i<n→jH ((aA.new n).read (i:Int)).1.data.toList=none:=fun i hi=>by
  rw[tJ bZ hi];exact tF
 exact⟨Vf bZ (by omega) (by omega) (by omega) 0 (by omega),.inl ⟨rfl,rfl,Bu (hz 0 (by omega)),Bu (hz 1 (by omega))⟩,rfl,rfl,rfl,wD,ql,fun q hq=>(by cases hq),ae5 _,⟨ae5 _,ae5 _⟩⟩
def VG.add{n:Nat}{D:aA}{J:PJ}{hd:dU}{mb:Model}{qs:List jG}{g:Nat}{q:jG}(h:VG n D J hd mb qs g)(nA:12≤n)(bZ:n≤4096)(hq:Dl q)(hr:room J (bs (cr q)).size)(hg:g+1<256):
 pJ D J (cV D n+1) (bs (cr q))=Sep.xQ J (bs (cr q)) (cR D J.at' J.hi (cV D n+1) (bs (bO (J.seq+1) (bs (cr q)))))∧(cR D J.at' J.hi (cV D n+1) (bs (bO (J.seq+1) (bs (cr q))))).1.Ok∧
 (((cR D J.at' J.hi (cV D n+1) (bs (bO (J.seq+1) (bs (cr q))))).2=0∧VG n (cR D J.at' J.hi (cV D n+1) (bs (bO (J.seq+1) (bs (cr q))))).1 (J.more (bs (cr q))) hd mb (qs++[q]) (g+1))∨
  ((cR D J.at' J.hi (cV D n+1) (bs (bO (J.seq+1) (bs (cr q))))).2=8∧∀mask torn cut,
    VG n ((cR D J.at' J.hi (cV D n+1) (bs (bO (J.seq+1) (bs (cr q))))).1.ie mask torn cut) J hd mb qs (g+1)∨
    VG n ((cR D J.at' J.hi (cV D n+1) (bs (bO (J.seq+1) (bs (cr q))))).1.ie mask torn cut) (J.more (bs (cr q))) hd mb (qs++[q]) (g+1))):=by
 obtain⟨x,hx,WJ,Sf⟩:=h.jg.tR (by omega);have hm:cV D n+1=((x+1:Nat):Int):=by omega
 rw[hm];have B3:=h.Hg;have YX:=h.aF;have wW:=h.lo;have vD:=h.hi;obtain⟨a1,a2,a3⟩:=Sf.add (m:=x+1) (s:=bs (cr q)) h.fJ bZ (by omega) (by omega) hr (by omega);have j2:=h.jg.uH.EB;obtain⟨a,ha⟩:=adL (show 0≤J.at' by omega);have wB:=oS (J.seq+1) (bs (cr q));have r3:=hr.2.2;rw[adB] at r3;have Xu:∀D',YM (cR D J.at' J.hi ((x+1:Nat):Int) (bs (bO (J.seq+1) (bs (cr q))))) D'→CG n D' hd mb:=fun D' hA=>by
  rw[ha,vD] at hA;obtain⟨k1,k2,k3,k4,k5,-,-⟩:=YT (n:=n) (a:=a) (t:=n) (m:=x+1) (g:=x) h.jg.ok h.jg.GS h.jg.len Sf.ends bZ (by omega) (by omega) (by rw[wB];omega) (adG _) hA;have OW:=(my nA hd.aF);have R6:cU n hd.aF+bN n≤2+2* bN n:=by unfold cU;split<;>omega
  exact h.cg.kY nA h.jg.len k3 (fun j hj=>k5 j (by omega) (.inl (by omega))) (fun j Y5 FX=>k5 j (by omega) (.inl (by omega)))
 have R7:∀r∈qs++[q],Dl r:=fun r hr=>by
  rcases aee.1 hr with hr|hr
  ·exact h.mg r hr
  ·cases(show r=q by simpa using hr);exact hq
 have FU:(qs++[q]).map cr=qs.map cr++[(bs (cr q)).data.toList]:=by rw[ad8];rfl
 refine⟨a1,a2,?_⟩;rcases a3 with⟨z,hj⟩|z
 ·left
  refine⟨z,⟨?_,Xu _ (.inr ⟨z,rfl⟩),wW,vD,h.fJ,h.vl,h.ground,R7,by show J.seq+1≤((g+1:Nat):Int);omega,by omega⟩⟩;rw[FU];exact hj.mono (by omega)
 ·right
  refine⟨z,fun mask torn cut=>?_⟩;obtain⟨f1,f2,f3,f4⟩:=fly Sf bZ (show x<x+1 by omega) (by omega) hr (by omega) mask torn cut;have hc:=Xu _ (.inl ⟨mask,torn,cut,rfl⟩);by_cases hw:∀i:Nat,i<dX (12+(bs (cr q)).size)→(((cR D J.at' J.hi ((x+1:Nat):Int) (bs (bO (J.seq+1) (bs (cr q))))).1.ie mask torn cut).read (J.at'+i)).1=leaf ((x+1:Nat):Int) i (Sep.part (bs (bO (J.seq+1) (bs (cr q)))) i)
  ·right
   refine⟨?_,hc,wW,vD,h.fJ,h.vl,h.ground,R7,by show J.seq+1≤((g+1:Nat):Int);omega,by omega⟩;rw[FU];exact(f3 hw).mono (by omega)
  ·left
   exact⟨(f4 hw).mono (by omega),hc,wW,vD,h.fJ,h.vl,h.ground,h.mg,by omega,by omega⟩
def FA{t:Int}(h:0≤t∧t<1152921504606846976):low (t+1)=1-low t:=by
 rw[FB (by omega),FB (by omega),aei (by omega),aei (by omega)];omega
def VG.put{n:Nat}{D:aA}{J:PJ}{hd:dU}{mb m:Model}{qs:List jG}{g:Nat}(h:VG n D J hd mb qs g)(nA:12≤n)(bZ:n≤4096)(hg:g+2<256)(y6:dX (bm (bo m)).length≤bN n):
 ((put D n (hd.aF+1) (cV D n+1) (bs (bm (bo m)))).2=0∨(put D n (hd.aF+1) (cV D n+1) (bs (bm (bo m)))).2=8)∧
 ∀D',YM (put D n (hd.aF+1) (cV D n+1) (bs (bm (bo m)))) D'→VG n D' J hd mb qs (g+1)∧
  ((put D n (hd.aF+1) (cV D n+1) (bs (bm (bo m)))).2=0→∀q:Nat,q<dX (bm (bo m)).length→(D'.read ((cU n (hd.aF+1)+q:Nat):Int)).1=leaf (cV D n+1) q (Sep.part (bs (bm (bo m))) q)):=by
 obtain⟨x,hx,WJ,Sf⟩:=h.jg.tR (by omega);have hm:cV D n+1=((x+1:Nat):Int):=by omega
 rw[hm,vf];have A5:=my nA (hd.aF+1);have YX:=h.aF;have wW:=h.lo;have vD:=h.hi;have B3:=h.Hg;refine⟨zu (n:=n) (a:=cU n (hd.aF+1)) (t:=cU n (hd.aF+1)+bN n) (number:=((x+1:Nat):Int)) h.jg.len bZ (by omega) (by rw[bF];omega) (by omega),fun D' hA=>?_⟩;obtain⟨k1,k2,k3,k4,k5,k6,k7⟩:=YT (n:=n) (a:=cU n (hd.aF+1)) (t:=cU n (hd.aF+1)+bN n) (m:=x+1) (g:=x) h.jg.ok h.jg.GS h.jg.len Sf.ends bZ (by omega) (by omega) (by rw[bF];omega) (by omega) hA;rw[bF] at k5 k6;have hap:=Hf (n:=n) hd.aF (hd.aF+1) (by rw[FA (by omega)];have:=re hd.aF;omega);have R6:cU n (hd.aF+1)+bN n≤2+2* bN n:=by unfold cU;split<;>omega
 refine⟨⟨AQ h.jg k1 k2 k3 (fun j Y5 FX=>?_) (fun j hj=>(k4 j hj).mono (by omega)),h.cg.kY nA h.jg.len k3 (fun j hj=>k5 j (by omega) (.inl (by omega))) (fun j Y5 FX=>k5 j (by have:=(my nA hd.aF).2.1;omega) (by omega)),wW,vD,h.fJ,h.vl,h.ground,h.mg,by omega,by omega⟩,k6⟩;obtain⟨k,rfl⟩:=adL (show 0≤j by omega);exact k5 k (by omega) (.inr (by omega))
def VG.Yy{n:Nat}{D:aA}{J:PJ}{hd:dU}{mb m:Model}{qs:List jG}{g:Nat}{number:Int}(h:VG n D J hd mb qs g)(nA:12≤n)(bZ:n≤4096)(x:Nat)(hx:cV D n≤x)(WJ:x≤g)(hg:g+1<256)(mP:1≤number∧number≤(g:Int))
 (y6:dX (bm (bo m)).length≤bN n)(hlen:(bm (bo m)).length≤425984)(mR:Good (bo m))(sH:Md.Ground m)
 (WS:∀q:Nat,q<dX (bm (bo m)).length→(D.read ((cU n (hd.aF+1)+q:Nat):Int)).1=leaf number q (Sep.part (bs (bm (bo m))) q)):
 ((pI D ((x+1:Nat):Int) ⟨hd.aF+1,number,((bm (bo m)).length:Int),J.seq⟩).2=0∨(pI D ((x+1:Nat):Int) ⟨hd.aF+1,number,((bm (bo m)).length:Int),J.seq⟩).2=8)∧
 ∀D',YM (pI D ((x+1:Nat):Int) ⟨hd.aF+1,number,((bm (bo m)).length:Int),J.seq⟩) D'→
  (VG n D' {J with at':=J.lo} ⟨hd.aF+1,number,((bm (bo m)).length:Int),J.seq⟩ m [] (g+1)∨
   ((pI D ((x+1:Nat):Int) ⟨hd.aF+1,number,((bm (bo m)).length:Int),J.seq⟩).2=8∧VG n D' J hd mb qs (g+1))):=by
 have nV:∀j:Nat,j<n→Sep.Ends x (D.read (j:Int)).1:=by
  obtain⟨y,hy,hyg,hjy⟩:=h.jg.tR (by omega);intro j hj;exact(hjy.ends j hj).mono (by omega)
 have YX:=h.aF;have B3:=h.Hg;have wW:=h.lo;have vD:=h.hi;have Qx:=h.jg.uH.seq;obtain⟨hH,C2⟩:∃hH:dU,hH=⟨hd.aF+1,number,((bm (bo m)).length:Int),J.seq⟩:=⟨_,rfl⟩;rw[←C2];have Zc:hH.aF=hd.aF+1:=by rw[C2]
 have hHs:hH.seq=J.seq:=by rw[C2]
 have hHn:hH.number=number:=by rw[C2]
 have hHz:hH.size=((bm (bo m)).length:Int):=by rw[C2]
 have Zd:kO hH:=by rw[C2];unfold kO;dsimp only;omega
 obtain⟨b,hb,tQ,e⟩:=JC (D:=D) (number:=((x+1:Nat):Int)) Zd;have HJ:=Bj hH;rw[e];refine⟨zu (n:=n) (a:=b) (t:=b+1) (number:=((x+1:Nat):Int)) h.jg.len bZ (by omega) (by rw[HJ];omega) (by omega),fun D' hA=>?_⟩;obtain⟨k1,k2,k3,k4,k5,k6,k7⟩:=YT (n:=n) (a:=b) (t:=b+1) (m:=x+1) (g:=x) h.jg.ok h.jg.GS h.jg.len nV bZ (by omega) (by omega) (by rw[HJ];omega) (by omega) hA;rw[HJ] at k5 k6 k7;have Xx:(b:Int)=1-low hd.aF:=by rw[hb,Zc];exact FA (by omega)
 have FV:=re hd.aF;have A5:=my nA (hd.aF+1);have adl:=my nA hd.aF;have OW:2≤2+2* bN n:=by omega
 have TW:=k7 0 (by decide);rw[aev,CC] at TW;have jg1:∀g',g'≥x+1→JG n D' J hd.seq (qs.map cr) g':=fun g' Qz=>AQ h.jg k1 k2 k3 (fun j Y5 FX=>by
  obtain⟨k,rfl⟩:=adL (show 0≤j by omega)
  exact k5 k (by omega) (.inr (by omega))) (fun j hj=>(k4 j hj).mono Qz)
 have vi:∀j:Nat,j<n→j≠b→(D'.read (j:Int)).1=(D.read (j:Int)).1:=fun j hj ji=>k5 j hj (by omega);have whole:(D'.read (b:Int)).1=leaf ((x+1:Nat):Int) 0 (bs (iH hH))→VG n D' {J with at':=J.lo} hH m [] (g+1):=fun hw=>by
  have jr:=Hz (jg1 (g+1) (by omega));refine⟨by rw[hHs];exact jr,.inr ⟨Zd,⟨b,((x+1:Nat):Int),hb,by omega,by omega,hw,fun p hp=>?_⟩,hHz,y6,fun q hq=>?_⟩,wW,vD,h.fJ,mR,sH,fun q hq=>(by cases hq),by show J.seq≤((g+1:Nat):Int);omega,by rw[Zc];omega⟩
  ·rw[Zc];have FN:vt D (1-b)=some p:=by rw[←hp];exact(xO (by have:=h.jg.len;omega) (by omega) (vi (1-b) (by omega) (by omega))).symm
   rcases h.cg with⟨z1,z2,z3,z4⟩|⟨Xk,⟨a,k,ha,O0,rj,hra,hpa⟩,-⟩
   ·by_cases Ul:b=0
    ·subst Ul;rw[z4] at FN;cases FN
    ·have:b=1:=by omega
     subst this;rw[z3] at FN;cases FN
   ·have O9:a=1-b:=by omega
    have eA:vt D a=some hd:=Gy (n:=k) ⟨O0,rj⟩ Xk ha (by
     have:=uj (D:=D) (i:=a) (by have:=h.jg.len;omega)
     rw[←hra,←this])
    rw[←O9,eA] at FN;cases FN
    omega
  ·rw[Zc,hHn,vi _ (by omega) (by omega)];exact WS q hq
 have Ws:vt D' b=none∨(D'.read (b:Int)).1=(D.read (b:Int)).1→VG n D' J hd mb qs (g+1):=fun hn=>by
  refine⟨jg1 (g+1) (by omega),?_,wW,vD,h.fJ,h.vl,h.ground,h.mg,by omega,by omega⟩;rcases hn with hn|hn
  ·rcases h.cg with⟨z1,z2,z3,z4⟩|⟨Xk,⟨a,k,ha,O0,rj,hra,hpa⟩,hs,hc,hq⟩
   ·have hc1:vt D' (1-b)=none:=by
     rw[xO (by have:=h.jg.len;omega) (by omega) (vi (1-b) (by omega) (by omega))];by_cases Ul:b=0
     ·subst Ul;exact z4
     ·have:b=1:=by omega
      subst this;exact z3
    refine .inl ⟨z1,z2,?_,?_⟩
    ·by_cases Ul:b=0
     ·subst Ul;exact hn
     ·have:b=1:=by omega
      subst this;exact hc1
    ·by_cases Ul:b=0
     ·subst Ul;exact hc1
     ·have:b=1:=by omega
      subst this;exact hn
   ·have O9:1-a=b:=by omega
    refine .inr ⟨Xk,⟨a,k,ha,O0,rj,by rw[vi a (by omega) (by omega)];exact hra,fun p hp=>by rw[O9,hn] at hp;cases hp⟩,hs,hc,fun q WW=>?_⟩;rw[vi _ (by omega) (by omega)];exact hq q WW
  ·exact h.cg.kY nA h.jg.len k3 (fun j hj=>by
    by_cases hjb:j=b
    ·subst hjb;exact hn
    ·exact vi j (by omega) hjb) (fun j Y5 FX=>vi j (by omega) (by omega))
 by_cases hw:(D'.read (b:Int)).1=leaf ((x+1:Nat):Int) 0 (bs (iH hH))
 ·exact .inl (whole hw)
 ·right
  have hc8:(cR D (b:Int) ((b+1:Nat):Int) ((x+1:Nat):Int) (bs (iH hH))).2=8:=by
   rcases zu (n:=n) (a:=b) (t:=b+1) (number:=((x+1:Nat):Int)) (s:=bs (iH hH)) h.jg.len bZ (by omega) (by rw[HJ];omega) (by omega) with h0|h8
   ·have:=k6 h0 0 (by decide);rw[aev,CC] at this;exact absurd this hw
   ·exact h8
  refine⟨hc8,?_⟩;rcases TW with hh|hh|hh
  ·exact Ws (.inr hh)
  ·exact absurd hh hw
  ·exact Ws (.inl (Bu hh))
def BF(n:Nat)(D:aA)(m:Model)(g:Nat):Prop:=∃J hd mb qs,VG n D J hd mb qs g∧uG mb qs=m
def BF.mono{n:Nat}{D:aA}{m:Model}{g g':Nat}(h:BF n D m g)(hg:g≤g'):BF n D m g':=by
 obtain⟨J,hd,mb,qs,h1,h2⟩:=h;exact⟨J,hd,mb,qs,h1.mono hg,h2⟩
structure VW(n:Nat)(S:VS)(m:Model)(g:Nat):Prop where
 fJ:S.fJ=false
 is:∃hd mb qs,VG n S.D S.J hd mb qs g∧uG mb qs=m∧S.aF=hd.aF
structure VX(n:Nat)(S:VS)(m mf:Model)(g:Nat):Prop where
 fJ:S.fJ=true
 ok:Lq S
 len:S.D.safe.length=n
 seq:S.J.seq≤g
 ie:∀mask torn cut,BF n (S.D.ie mask torn cut) m g∨BF n (S.D.ie mask torn cut) mf g
def VW.mono{n:Nat}{S:VS}{m:Model}{g g':Nat}(h:VW n S m g)(hg:g≤g'):VW n S m g':=by
 obtain⟨h1,hd,mb,qs,h2,h3,h4⟩:=h;exact⟨h1,hd,mb,qs,h2.mono hg,h3,h4⟩
def VX.mono{n:Nat}{S:VS}{m mf:Model}{g g':Nat}(h:VX n S m mf g)(hg:g≤g'):VX n S m mf g':=
 ⟨h.fJ,h.ok,h.len,by have:=h.seq;omega,fun a b c=>(h.ie a b c).imp (fun x=>x.mono hg) (fun x=>x.mono hg)⟩
def VW.ok{n:Nat}{S:VS}{m:Model}{g:Nat}(h:VW n S m g)(hg:g<256):Lq S:=by
 obtain⟨h1,hd,mb,qs,h2,h3,h4⟩:=h;have:=h2.aF;exact⟨h2.jg.ok,by rw[h2.jg.GS];decide,h2.jg.uH,by omega⟩
def EH{n:Nat}{S:VS}{m:Model}{g:Nat}(h:VW n S m g)(nA:12≤n)(bZ:n≤4096)(hg:g+2<256)(mR:Good (bo m))(sH:Md.Ground m):
 ((ib n m S).2=0∧VW n (ib n m S).1 m (g+2)∧(ib n m S).1.aF=S.aF+1∧(ib n m S).1.J.seq=S.J.seq∧(ib n m S).1.J.at'=S.J.lo∧(ib n m S).1.J.lo=S.J.lo∧(ib n m S).1.J.hi=S.J.hi)∨
 ((ib n m S).2=3∧(ib n m S).1=S)∨
 ((ib n m S).2=8∧VX n (ib n m S).1 m m (g+2)∧(ib n m S).1.aF=S.aF∧(ib n m S).1.J.seq=S.J.seq):=by
 have hgl:=sh mR;have rN:=mR.mC;have rL:=mR.many;have hlen:(bm (bo m)).length≤425984:=by omega
 obtain⟨h1,hd,mb,qs,h2,h3,h4⟩:=h;have YX:=h2.aF;have wW:=h2.lo;have vD:=h2.hi;have B3:=h2.Hg;have OW:2+2* bN n<n:=by unfold bN;omega
 unfold ib;rw[if_neg (by rw[h1];decide),h4,h2.jg.len];by_cases y6:dX (bm (bo m)).length≤bN n
 rotate_left
 ·rw[if_pos y6]
  right;left
  exact⟨rfl,rfl⟩
 rw[if_neg (fun hh=>hh y6)];obtain⟨p1,p2⟩:=h2.put (m:=m) nA bZ hg y6;obtain⟨x,hx,WJ,Sf⟩:=h2.jg.tR (by omega);have A5:=my nA (hd.aF+1);have mC:∀{a t:Nat} {k:Int} {s:BA} {D:aA},D.Ok→D.later=[]→dX s.size<900000→(cR D a t k s).1.later.length<1000000:=fun{a t k s D} ho hl hc=>by
  have:=Hx (at':=(a:Int)) (to:=(t:Int)) (number:=k) (s:=s) ho (by rw[hl,ad6];omega);rw[hl,ad6] at this;omega
 have Jv:dX (bs (bm (bo m))).size<900000:=by rw[bF];have:=A5.2.1;omega
 by_cases z1:(put S.D n (hd.aF+1) (cV S.D n+1) (bs (bm (bo m)))).2=0
 rotate_left
 ·have z8:(put S.D n (hd.aF+1) (cV S.D n+1) (bs (bm (bo m)))).2=8:=by rcases p1 with p1|p1;exact absurd p1 z1;exact p1
  rw[if_pos z1]
  right;right
  have c0:=p2 _ (.inl ⟨0,0,0,rfl⟩);have LG:(put S.D n (hd.aF+1) (cV S.D n+1) (bs (bm (bo m)))).1.safe.length=n:=by rw[←rT _ 0 0 0];exact c0.1.jg.len
  have T4:(put S.D n (hd.aF+1) (cV S.D n+1) (bs (bm (bo m)))).1.Ok:=by rw[vf];exact Fy h2.jg.ok (by rw[h2.jg.GS,ad6];omega)
  have sG:=h2.jg.uH;refine⟨z8,⟨rfl,⟨T4,by rw[vf];exact mC h2.jg.ok h2.jg.GS Jv,⟨sG.lo,sG.EB,sG.N9,by rw[LG];have:=sG.hi;rw[h2.jg.len] at this;exact this,sG.seq⟩,by show 0≤hd.aF∧hd.aF<_;omega⟩,LG,by show S.J.seq≤_;omega,fun a b c=>?_⟩,rfl,rfl⟩
  left
  obtain⟨c1,c2⟩:=p2 _ (.inl ⟨a,b,c,rfl⟩);exact⟨S.J,hd,mb,qs,c1.mono (by omega),h3⟩
 ·rw[if_neg (fun hh=>hh z1)];obtain⟨c1,c2⟩:=p2 _ (.inr ⟨z1,rfl⟩);have c2:=c2 z1;generalize hD1:(put S.D n (hd.aF+1) (cV S.D n+1) (bs (bm (bo m)))).1=D1 at c1 c2⊢;have B5:cV D1 n≤((x+1:Nat):Int):=by
   have hA:YM (put S.D n (hd.aF+1) (cV S.D n+1) (bs (bm (bo m)))) D1:=.inr ⟨z1,hD1.symm⟩;rw[vf,show cV S.D n+1=((x+1:Nat):Int) by omega] at hA;obtain⟨_,_,_,k4,_⟩:=YT (n:=n) (a:=cU n (hd.aF+1)) (t:=cU n (hd.aF+1)+bN n) (m:=x+1) (g:=x) h2.jg.ok h2.jg.GS h2.jg.len Sf.ends bZ (by omega) (by omega) (by rw[bF];omega) (by omega) hA;exact ur (by omega) n k4
  have e2:cV S.D n+2=((x+1+1:Nat):Int):=by omega
  rw[e2];obtain⟨q1,q2⟩:=c1.Yy (m:=m) (number:=cV S.D n+1) nA bZ (x+1) B5 (by omega) (by omega) (by omega) y6 hlen mR sH c2;have Zd:kO ⟨hd.aF+1,cV S.D n+1,((bm (bo m)).length:Int),S.J.seq⟩:=by have:=h2.jg.uH.seq;unfold kO;dsimp only;omega
  obtain⟨b,hb,tQ,ec⟩:=JC (D:=D1) (number:=((x+1+1:Nat):Int)) Zd;by_cases z2:(pI D1 ((x+1+1:Nat):Int) ⟨hd.aF+1,cV S.D n+1,((bm (bo m)).length:Int),S.J.seq⟩).2=0
  ·rw[if_neg (fun hh=>hh z2)]
   left
   rcases q2 _ (.inr ⟨z2,rfl⟩) with hv|⟨h8,_⟩
   ·exact⟨rfl,⟨h1,_,m,[],hv.mono (by omega),rfl,rfl⟩,rfl,rfl,rfl,rfl,rfl⟩
   ·rw[z2] at h8;exact absurd h8 (by decide)
  ·have z8:(pI D1 ((x+1+1:Nat):Int) ⟨hd.aF+1,cV S.D n+1,((bm (bo m)).length:Int),S.J.seq⟩).2=8:=by rcases q1 with q1|q1;exact absurd q1 z2;exact q1
   rw[if_pos z2]
   right;right
   have LG:(pI D1 ((x+1+1:Nat):Int) ⟨hd.aF+1,cV S.D n+1,((bm (bo m)).length:Int),S.J.seq⟩).1.safe.length=n:=by
    rw[←rT _ 0 0 0];rcases q2 _ (.inl ⟨0,0,0,rfl⟩) with hv|⟨_,hv⟩
    ·exact hv.jg.len
    ·exact hv.jg.len
   have T4:(pI D1 ((x+1+1:Nat):Int) ⟨hd.aF+1,cV S.D n+1,((bm (bo m)).length:Int),S.J.seq⟩).1.Ok:=by rw[ec];exact Fy c1.jg.ok (by rw[c1.jg.GS,ad6,Bj];omega)
   have sG:=h2.jg.uH;refine⟨z8,⟨rfl,⟨T4,by rw[ec];exact mC c1.jg.ok c1.jg.GS (by rw[Bj];omega),⟨sG.lo,sG.EB,sG.N9,by rw[LG];have:=sG.hi;rw[h2.jg.len] at this;exact this,sG.seq⟩,by show 0≤hd.aF∧hd.aF<_;omega⟩,LG,by show S.J.seq≤_;omega,fun a b' c=>?_⟩,rfl,rfl⟩
   left
   rcases q2 _ (.inl ⟨a,b',c,rfl⟩) with hv|⟨_,hv⟩
   ·exact⟨_,_,m,[],hv.mono (by omega),rfl⟩
   ·exact⟨S.J,hd,mb,qs,hv.mono (by omega),h3⟩
def L8{n:Nat}{S:VS}{m:Model}{g:Nat}{q:jG}(h:VW n S m g)(nA:12≤n)(bZ:n≤4096)(hg:g+1<256)(hq:Dl q):
 ((ma S (bs (cr q))).2=0∧VW n (ma S (bs (cr q))).1 (aK m q).2.2 (g+1)∧(ma S (bs (cr q))).1.aF=S.aF∧(ma S (bs (cr q))).1.J.seq=S.J.seq+1)∨
 ((ma S (bs (cr q))).2=6∧(ma S (bs (cr q))).1=S∧¬room S.J (bs (cr q)).size)∨
 ((ma S (bs (cr q))).2=8∧VX n (ma S (bs (cr q))).1 m (aK m q).2.2 (g+1)∧(ma S (bs (cr q))).1.aF=S.aF∧(ma S (bs (cr q))).1.J.seq=S.J.seq):=by
 obtain⟨h1,hd,mb,qs,h2,h3,h4⟩:=h;have YX:=h2.aF;have wW:=h2.lo;have vD:=h2.hi;have B3:=h2.Hg;have VE:=(sK S.D n).1;obtain⟨x,hx,WJ,Sf⟩:=h2.jg.tR (by omega);unfold ma;rw[h2.jg.len];by_cases hr:room S.J (bs (cr q)).size
 ·obtain⟨a1,a2,a3⟩:=h2.add nA bZ hq hr hg;have Ng:uG mb (qs++[q])=(aK m q).2.2:=by rw[Cv,h3]
  rcases a3 with⟨z,hv⟩|⟨z,hv⟩
  ·have e:pJ S.D S.J (cV S.D n+1) (bs (cr q))=((cR S.D S.J.at' S.J.hi (cV S.D n+1) (bs (bO (S.J.seq+1) (bs (cr q))))).1,S.J.more (bs (cr q)),0):=by
    rw[a1];unfold Sep.xQ;rw[if_neg (fun hh=>hh z)];rfl
   rw[e]
   left
   exact⟨rfl,⟨by show(S.fJ||_)=false;rw[h1];rfl,hd,mb,qs++[q],hv,Ng,h4⟩,rfl,rfl⟩
  ·have e:pJ S.D S.J (cV S.D n+1) (bs (cr q))=((cR S.D S.J.at' S.J.hi (cV S.D n+1) (bs (bO (S.J.seq+1) (bs (cr q))))).1,{S.J with fJ:=true},8):=by
    rw[a1];unfold Sep.xQ;rw[if_pos (by rw[z];decide),z]
   rw[e]
   right;right
   have LG:(cR S.D S.J.at' S.J.hi (cV S.D n+1) (bs (bO (S.J.seq+1) (bs (cr q))))).1.safe.length=n:=by
    rw[←rT _ 0 0 0];rcases hv 0 0 0 with hh|hh
    ·exact hh.jg.len
    ·exact hh.jg.len
   have sG:=h2.jg.uH;have wB:=oS (S.J.seq+1) (bs (cr q));have VJ:dX (12+(bs (cr q)).size)≤4096:=by have:=hr.2.2;rw[adB] at this;have:=sG.lo;have:=sG.EB;omega
   have rN:=Hx (at':=S.J.at') (to:=S.J.hi) (number:=cV S.D n+1) (s:=bs (bO (S.J.seq+1) (bs (cr q)))) h2.jg.ok (by rw[h2.jg.GS,ad6,wB];omega);rw[h2.jg.GS,ad6,wB] at rN;refine⟨rfl,⟨by show(S.fJ||_)=true;rw[h1];rfl,⟨a2,by show(cR S.D S.J.at' S.J.hi (cV S.D n+1) (bs (bO (S.J.seq+1) (bs (cr q))))).1.later.length<1000000;omega,⟨sG.lo,sG.EB,sG.N9,by rw[LG];have:=sG.hi;rw[h2.jg.len] at this;exact this,sG.seq⟩,by show 0≤S.aF∧S.aF<_;omega⟩,LG,by show S.J.seq≤_;omega,fun a b c=>?_⟩,rfl,rfl⟩;rcases hv a b c with hh|hh
   ·exact .inl ⟨_,hd,mb,qs,hh,h3⟩
   ·exact .inr ⟨_,hd,mb,qs++[q],hh,Ng⟩
 ·have e:pJ S.D S.J (cV S.D n+1) (bs (cr q))=(S.D,S.J,6):=by
   unfold pJ;rw[if_neg (by rw[h2.fJ];decide),if_neg (by omega),if_pos (.inl hr)]
  rw[e]
  right;left
  refine⟨rfl,?_,hr⟩;have:(S.fJ||(6:Int)==8)=S.fJ:=by cases S.fJ<;>rfl
  dsimp only;rw[this]
def SP{n:Nat}{S:VS}{m:Model}{g:Nat}{q:jG}(h:VW n S m g)(nA:12≤n)(bZ:n≤4096)(hg:g+3<256)(mR:Good (bo m))(sH:Md.Ground m)(hw:iA q=true)(he:eX q=true)(hA:∀a∈q.ag,vy a)(hT:∀t∈q.aW,uY t):
 ((vz n m S q).2=((aK m q).2.2,(aK m q).1,(aK m q).2.1)∧VW n (vz n m S q).1 (aK m q).2.2 (g+3)∧(vz n m S q).1.J.seq=S.J.seq+1)∨
 (∃e,(e=3∨e=6)∧(vz n m S q).2=(m,e,[])∧VW n (vz n m S q).1 m (g+3)∧(vz n m S q).1.J.seq=S.J.seq)∨
 ((vz n m S q).2=(m,8,[])∧VX n (vz n m S q).1 m (aK m q).2.2 (g+3)∧(vz n m S q).1.J.seq=S.J.seq):=by
 have DS:Dl q:=⟨hw,he,hA,hT⟩;unfold vz;rw[if_neg (by rw[hw];decide),if_neg (by rw[h.fJ];decide)];have main:∀(S1:VS)(g1:Nat),VW n S1 m g1→g1+1≤g+3→S1.J.seq=S.J.seq→hO n m S (bs (cr q))=ma S1 (bs (cr q))→
                                          ((if(hO n m S (bs (cr q))).2≠0 then((hO n m S (bs (cr q))).1,m,(hO n m S (bs (cr q))).2,[]) else((hO n m S (bs (cr q))).1,(aK m q).2.2,(aK m q).1,(aK m q).2.1):VS×Model×Int×List Int)).2=((aK m q).2.2,(aK m q).1,(aK m q).2.1)∧VW n (if(hO n m S (bs (cr q))).2≠0 then((hO n m S (bs (cr q))).1,m,(hO n m S (bs (cr q))).2,[]) else((hO n m S (bs (cr q))).1,(aK m q).2.2,(aK m q).1,(aK m q).2.1):VS×Model×Int×List Int).1 (aK m q).2.2 (g+3)∧((if(hO n m S (bs (cr q))).2≠0 then((hO n m S (bs (cr q))).1,m,(hO n m S (bs (cr q))).2,[]) else((hO n m S (bs (cr q))).1,(aK m q).2.2,(aK m q).1,(aK m q).2.1):VS×Model×Int×List Int)).1.J.seq=S.J.seq+1∨
                                          (∃e,(e=3∨e=6)∧((if(hO n m S (bs (cr q))).2≠0 then((hO n m S (bs (cr q))).1,m,(hO n m S (bs (cr q))).2,[]) else((hO n m S (bs (cr q))).1,(aK m q).2.2,(aK m q).1,(aK m q).2.1):VS×Model×Int×List Int)).2=(m,e,[])∧VW n (if(hO n m S (bs (cr q))).2≠0 then((hO n m S (bs (cr q))).1,m,(hO n m S (bs (cr q))).2,[]) else((hO n m S (bs (cr q))).1,(aK m q).2.2,(aK m q).1,(aK m q).2.1):VS×Model×Int×List Int).1 m (g+3)∧((if(hO n m S (bs (cr q))).2≠0 then((hO n m S (bs (cr q))).1,m,(hO n m S (bs (cr q))).2,[]) else((hO n m S (bs (cr q))).1,(aK m q).2.2,(aK m q).1,(aK m q).2.1):VS×Model×Int×List Int)).1.J.seq=S.J.seq)∨
                                          (((if(hO n m S (bs (cr q))).2≠0 then((hO n m S (bs (cr q))).1,m,(hO n m S (bs (cr q))).2,[]) else((hO n m S (bs (cr q))).1,(aK m q).2.2,(aK m q).1,(aK m q).2.1):VS×Model×Int×List Int)).2=(m,8,[])∧VX n (if(hO n m S (bs (cr q))).2≠0 then((hO n m S (bs (cr q))).1,m,(hO n m S (bs (cr q))).2,[]) else((hO n m S (bs (cr q))).1,(aK m q).2.2,(aK m q).1,(aK m q).2.1):VS×Model×Int×List Int).1 m (aK m q).2.2 (g+3)∧((if(hO n m S (bs (cr q))).2≠0 then((hO n m S (bs (cr q))).1,m,(hO n m S (bs (cr q))).2,[]) else((hO n m S (bs (cr q))).1,(aK m q).2.2,(aK m q).1,(aK m q).2.1):VS×Model×Int×List Int)).1.J.seq=S.J.seq):=fun S1 g1 TM G1 HC WN=>by
  rw[WN];rcases L8 (q:=q) TM nA bZ (by omega) DS with⟨z,a,b,c⟩|⟨z,a,b⟩|⟨z,a,b,c⟩
  ·left
   rw[if_neg (fun hh=>hh z)];exact⟨rfl,a.mono G1,by rw[←HC];exact c⟩
  ·right;left
   rw[if_pos (by rw[z];decide),z,a];exact⟨6,.inr rfl,rfl,TM.mono (by omega),HC⟩
  ·right;right
   rw[if_pos (by rw[z];decide),z];exact⟨rfl,a.mono G1,by rw[←HC];exact c⟩
 by_cases hr:room S.J (bs (cr q)).size
 ·exact main S g h (by omega) rfl (by unfold hO;rw[if_pos hr])
 ·rcases EH h nA bZ (by omega) mR sH with⟨z,a,b,c,_⟩|⟨z,a⟩|⟨z,a,b,c⟩
  ·exact main (ib n m S).1 (g+2) a (by omega) c (by unfold hO;rw[if_neg hr,if_neg (fun hh=>hh z)])
  ·have WN:hO n m S (bs (cr q))=ib n m S:=by unfold hO;rw[if_neg hr,if_pos (by rw[z];decide)]
   rw[WN,if_pos (by rw[z];decide)]
   right;left
   exact⟨3,.inl rfl,by rw[z],by rw[a];exact h.mono (by omega),by rw[a]⟩
  ·have WN:hO n m S (bs (cr q))=ib n m S:=by unfold hO;rw[if_neg hr,if_pos (by rw[z];decide)]
   rw[WN,if_pos (by rw[z];decide)]
   right;right
   refine⟨by rw[z],⟨a.fJ,a.ok,a.len,by show(ib n m S).1.J.seq≤_;have:=a.seq;omega,fun x y w=>?_⟩,c⟩
   left
   rcases a.ie x y w with hh|hh
   ·exact hh.mono (by omega)
   ·exact hh.mono (by omega)
structure Im where
 kind:Int
 q:jG
 s:sf
 mask:Int
 torn:Int
 cut:Int
 n:Int
def uD(x:Im):LV:=.i x.kind::(eu x.q x.s++[.u x.mask,.i x.torn,.i x.cut,.i x.n])
def E0(x:Im):(uD x).length=18:=rfl
instance{x:Im}:Ln (uD x) 18:=⟨rfl⟩
instance{x:Im}:Gt (uD x) 0 (.i x.kind):=⟨rfl⟩
instance{x:Im}:Gt (uD x) 2 (.l x.s.sa x.q.ag.length x.s.ca):=⟨rfl⟩
instance{x:Im}:Gt (uD x) 3 (.l x.s.st x.q.aW.length x.s.ct):=⟨rfl⟩
instance{x:Im}:Gt (uD x) 5 (.l x.s.si x.q.ids.length x.s.ci):=⟨rfl⟩
def Mw(x:Im):∀v∈uD x,v.oneCell'=true:=fun v hv=>by
 rcases aeS.1 hv with h|h
 ·subst h;rfl
 ·rcases aee.1 h with h|h
  ·exact tE _ _ v h
  ·simp at h;rcases h with rfl|rfl|rfl|rfl<;>rfl
section
variable {x1 x2 x3 x4 x5 x6 x7 x8 x9 zg zf ze zb Cf GO GN Pf Pe:Value} {x:Im}
instance:Wr [x1,x2,x3,x4,x5,x6,x7,x8,x9,zg,zf,ze,zb,Cf,GO,GN,Pf,Pe] 0 (uD x) (uD x):=⟨rfl,adG _,Mw x⟩
instance:Sub (uD x) 1 13 (eu x.q x.s):=⟨rfl,fun j v h=>by
 show(_::(eu x.q x.s++_))[1+j]?=some v
 rw[Nat.add_comm 1 j,adR,adY (adC.1 h).1];exact h⟩
end
def St.nil{W w:World}{L:LH}(h:St W w L):St W w []:=by
 induction L with
 |nil=>exact h
 |cons A L ih=>exact ih h.drop
instance(priority:=low) Has.nil{L:LH}:Has [] L:=⟨fun h=>St.nil h⟩
def yL(m m2:Model):Prop:=(bo m).ag=(bo m2).ag∧m.kept=m2.kept∧m.clock=m2.clock∧m.af=m2.af
instance(m m2:Model):Decidable (yL m m2):=by unfold yL;infer_instance
def yL.refl(m:Model):yL m m:=⟨rfl,rfl,rfl,rfl⟩
def IL:∀{l:List Nat} {x:Nat},x∈l→x≤l.sum
 |[],x,h=>by cases h
 |y::l,x,h=>by
  rw[List.sum_cons];rcases aeS.1 h with h|h
  ·subst h;omega
  ·have:=IL h;omega
structure GI(W:World)(x:Im):Prop where
 req:mu W [] x.q x.s
 ag:∀a∈x.q.ag,vy a
 aW:∀t∈x.q.aW,uY t
 la:x.q.ag.length≤140737488355328
 lt:x.q.aW.length≤140737488355328
section
variable {W:World} {L R M:LH} {K:VK} {X:WK} {q:jG} {s:sf} {p v d n pb pj:Nat} {m m2:Model} {mb kb:OA} {mc kc:Nat} {S:VS} {D:aA} {J:PJ} {hd:dU} {qs:List jG} {g:Nat} {f:aA→LH}
def zU(G:pK W)(nA:12≤n)(bZ:n≤4096)(hv:VG n D J hd m qs g)(hg:g<256)
 (h:∀v pb pj,Md.Ground (uG m qs)→T W (VL v d n pb pj (uG m qs) ⟨D,J,hd.aF,false⟩ R) (K (.tuple ⟨[.p (some ⟨v,0,none⟩),.i 0]⟩))):
 T W (fA d D::R) (iB (some ⟨d,0,none⟩) K):=by
 have ho:=hv.jg.opened;have wW:=hv.lo;have vD:=hv.hi;rw[wW,vD] at ho;have B3:=hv.Hg;have hq0:=hv.jg.q0;have Qx:=hv.jg.seq;refine Pk G hv.jg.ok nA bZ hv.jg.len (hv.cg.base hv.jg.len nA bZ) hv.vl hv.ground ⟨hq0,by omega⟩ (qs:=qs) (by rw[ho]) hv.mg fun v pb pj r9=>?_;rw[ho];have e:(⟨((2+2* bN n:Nat):Int),(n:Int),J.at',J.seq,false⟩:PJ)=J:=by
  cases J with
  |mk lo hi at' seq fJ=>
   have h1:=hv.fJ;dsimp only at wW vD h1;subst wW vD h1
   rfl
 dsimp only;rw[e];exact h v pb pj r9
def ME(hg:Good (bo m))(r9:Md.Ground m)(h:T W (VL v d n pb pj m2 S (ML p m mb mc kb kc R)) (K (.bool (decide (yL m m2))))):T W (VL v d n pb pj m2 S (ML p m mb mc kb kc R)) (fF (some ⟨v,0,none⟩) (some ⟨p,0,none⟩) K):=by
 have hm:=RM.I8 hg r9;unfold fF;refine EL fun p3=>?_;refine u1 ?_;refine vx (p:=p3) fun ab ac=>?_;refine tt ?_;refine Es (p:=p3) fun xb xc=>?_;refine tt ?_;refine Ex (p:=p3) ?_;refine na ?_;refine JO (p:=p3) ?_;refine na ?_;refine T.perm (L:=ML p m mb mc kb kc (own xb (bo m2).kept.length xc 33 ((bo m2).kept.flatMap aM)::own ab (bo m2).ag.length ac 14 ((bo m2).ag.flatMap ak)::bn p3 (bo m2,[])::VL v d n pb pj m2 S R)) ?_ (adJ (l₁:=[_,_,_,_,_,_,_]) (l₂:=[_,_,_])|>.append_right R);refine PO hm ?_;refine qC ?_;have e:decide (m.made.map m.full=(bo m2).ag∧m.kept=(bo m2).kept∧m.clock=(bo m2).clock∧m.af=(bo m2).af)=decide (yL m m2):=by
  have e1:m.made.map m.full=(bo m).ag:=aeR fun a ha=>r9.full ha;rw[e1,decide_eq_decide];exact Iff.rfl
 rw[e];refine T.perm (L:=own xb (bo m2).kept.length xc 33 ((bo m2).kept.flatMap aM)::own ab (bo m2).ag.length ac 14 ((bo m2).ag.flatMap ak)::bn p3 (bo m2,[])::VL v d n pb pj m2 S (ML p m mb mc kb kc R)) ?_ (adJ (l₁:=[_,_,_]) (l₂:=[_,_,_,_,_,_,_])|>.append_right R);exact T.drop (T.drop (T.drop h))
def KX{sb:OA}{sc:Nat}{l:List Im}(hr:oz W [] uD 18 sb l)(hl:l.length≤maxLen)(A5:∀x∈l,GI W x)
 (h:∀b:Bool,(b=false→l.length≤60∧∀x∈l,x.q.ag.length+x.q.aW.length≤150∧x.q.ids.length≤100)→T W L (K (.bool b))):T W L (gh sb l.length sc K):=by
 unfold maxLen at hl;unfold gh;intro w ku;refine⟨fun vv w=>∃(i:Nat)(n:Int),i≤l.length∧(∀x∈l.take i,x.q.ids.length≤100)∧(l.length≤60→n=(((l.take i).map fun x=>x.q.ag.length+x.q.aW.length).sum:Nat))∧vv=[.bool false,.i n,.l sb l.length sc,.i (l.length:Int),.i (i:Int)]∧St W w L,
  fun vs _=>match vs with|[_,_,_,_,.int _ d]=>l.length-d.toNat|_=>0,⟨0,0,adK _,(fun x hx=>by cases hx),(fun _=>rfl),rfl,ku⟩,?_⟩
 rintro b1 n1 uF qg uE n2 n3 w2 ⟨i,nn,hi,KP,TP,e,gN⟩;cases e
 refine T.at ?_ gN;have hbound:∀j,j≤l.length→l.length≤60→((l.take j).map fun x=>x.q.ag.length+x.q.aW.length).sum≤j* 281474976710656:=fun j=>by
  induction j with
  |zero=>intro _ _;simp
  |succ j ih=>
   intro hj Pa;have:=ih (by omega) Pa;have gx:=adA (show j<l.length by omega);have hx:=A5 _ (adZ (show j<l.length by omega));rw[adT,gx,ad8,List.sum_append];have h1:=hx.la;have h2:=hx.lt;simp only[Option.toList_some,aeb,afa,List.sum_cons,List.sum_nil];omega
 refine az (fun g1=>?_) (fun g1=>?_)
 ·have a8:i<l.length:=by have:=of_decide_eq_true g1;omega
  have e5:adx.wrap ((i:Int)+1)=((i+1:Nat):Int):=by rw[ah (by omega)];omega
  have gx:=adA a8;have hx:=A5 _ (adZ a8);have oQ:l.take (i+1)=l.take i++[l[i]]:=by rw[adT,gx];rfl
  generalize l[i]=x at gx hx oQ;have y5:=hx.la;have rM:=hx.lt;refine kV hr ⟨by omega,by omega⟩ rfl fun a ha=>?_;rw[adB];refine kT hr ha gx (E0 x) ?_
  repeat' first|apply ww|apply wm;intro _|apply wb
  refine az (fun g2=>?_) (fun g2=>?_)
  ·exact T.drop (h true (fun hh=>by cases hh))
  ·have g2:=of_decide_eq_false g2;rw[e5];refine T.drop fun w3 h3=>⟨⟨i+1,_,a8,fun y hy=>?_,fun Pa=>?_,rfl,h3⟩,by show l.length-((i+1:Nat):Int).toNat<l.length-(i:Int).toNat;omega⟩
   ·rw[oQ] at hy;rcases aee.1 hy with hy|hy
    ·exact KP y hy
    ·cases(show y=x by simpa using hy);omega
   ·have hb:=hbound i (by omega) Pa;rw[TP Pa,oQ,ad8,List.sum_append];simp only[aeb,afa,List.sum_cons,List.sum_nil];rw[ah (n:=(x.q.ag.length:Int)+(x.q.aW.length:Int)) (by omega),ah (by omega)];omega
 ·have iM:i=l.length:=by have:=of_decide_eq_false g1;omega
  subst iM;rw[adN] at KP TP;refine az (fun g2=>?_) (fun g2=>?_)
  ·exact h true (fun hh=>by cases hh)
  ·have g2:=of_decide_eq_false g2;have Pa:l.length≤60:=by omega
   have hs:=TP Pa;refine h _ (fun hh=>⟨Pa,fun x hx=>⟨?_,KP x hx⟩⟩);have hh:=of_decide_eq_false hh;have:x.q.ag.length+x.q.aW.length≤(l.map fun x=>x.q.ag.length+x.q.aW.length).sum:=IL (List.mem_map_of_mem hx);omega
end
def wX(n:Nat)(m:Model)(S:VS)(q:jG):VS×Model×Int×List Int×List aS×List Move:=
 if eX q=true then((vz n m S q).1,(vz n m S q).2.1,(vz n m S q).2.2.1,(vz n m S q).2.2.2,[],[])
 else(S,m,(ask m q).1,[],(ask m q).2.1,(ask m q).2.2)
inductive Out(m:Model)(q:jG):Int→List Int→List aS→List Move→Model→Prop where
 |ask (h:eX q=false):Out m q (ask m q).1 [] (ask m q).2.1 (ask m q).2.2 m
 |bad (h:eX q=true) (h2:iA q=false):Out m q 1 [] [] [] m
 |done (h:eX q=true) (h2:iA q=true) (h3:(aK m q).1=0):Out m q 0 (aK m q).2.1 [] [] (aK m q).2.2
 |not (h:eX q=true) (h2:iA q=true) (e:Int) (h3:e=8∨e=9∨e=6∨e=3):Out m q e [] [] [] m
def Ga{m:Model}{q:jG}(hw:iA q=true)(he:eX q=true):(aK m q).1=0:=by
 have h2:km q=true:=by
  have T2:q.op=1∨q.op=2∨q.op=3:=of_decide_eq_true he;have ha:lV q=false:=by
   unfold lV;rw[if_neg (by omega),if_neg (by omega)]
  unfold iA at hw;rw[ha,Bool.or_false,aet] at hw;exact hw.1
 unfold aK;rw[if_neg (by rw[h2];decide)];split
 ·rfl
 ·split<;>rfl
def Rh{m:Model}{q:jG}(hg:Good (bo m))(hi:q.ids.length≤16∨lV q=false∨q.op=6):(ask m q).2.1.length≤10000∧(ask m q).2.2.length≤10000:=by
 unfold ask;split
 ·simp
 ·rename_i ji;have Zf:q.op=4∨q.op=5→q.ids.length≤16:=fun ho=>by
   have zy:lV q=true:=by simpa using ji
   unfold lV at zy;rw[if_pos ho,aet,decide_eq_true_eq,decide_eq_true_eq] at zy;exact zy.2
  split
  ·rename_i h4;have:=Zf (.inl h4);have h2:=List.length_filterMap_le (bo m).find q.ids;dsimp only;exact⟨by omega,by simp⟩
  ·split
   ·rename_i h5;have:=Zf (.inr h5);have h2:=List.length_filterMap_le (fun id=>((bo m).named id).map (·.move)) q.ids;dsimp only;exact⟨by simp,by omega⟩
   ·rw[←Fp hg];dsimp only;refine⟨by simp,?_⟩;unfold MW;rw[ad1,adF];have h3:((if q.nq=true then(bo m).kept.reverse else(bo m).kept).filter fun k=>wx q.iw q.rP k.move.af&&fits q k).length≤(if q.nq=true then(bo m).kept.reverse else(bo m).kept).length:=List.length_filter_le _ _;have h4:(if q.nq=true then(bo m).kept.reverse else(bo m).kept).length=(bo m).kept.length:=by split<;>simp
    have:=hg.many;omega
def mu.any{W:World}{R:LH}{q:jG}{s:sf}(h:mu W [] q s):mu W R q s:=⟨h.ag.mono,h.aW.mono,h.ids.mono,h.ca,h.ct,h.ci⟩
section
variable {W:World} {L R M:LH} {K:VK} {X:WK} {q:jG} {s:sf} {p p2 v d n pb pj:Nat} {m m2 m3:Model} {mb kb nT jd:OA} {mc kc nS jc:Nat} {S S2:VS} {D:aA} {J:PJ} {g:Nat}
def RG(G:pK W)(hg:Md.Ground m)(hS:Lq S)(XF:Lq (ib n m S).1)(nA:12≤n)(bZ:n≤4096)(hq:mu W [] q s)(hA:∀a∈q.ag,vy a)(hT:∀t∈q.aW,uY t)(y5:q.ag.length<1000000)(a8:q.aW.length<1000000)
 (h:∀rb rc ab ac tb tc,Md.Ground (wX n m S q).2.1→T W (own rb (wX n m S q).2.2.2.1.length rc 1 ((wX n m S q).2.2.2.1.flatMap I1)::own ab (wX n m S q).2.2.2.2.1.length ac 14 ((wX n m S q).2.2.2.2.1.flatMap ak)::own tb (wX n m S q).2.2.2.2.2.length tc 16 ((wX n m S q).2.2.2.2.2.flatMap ai)::VL v d n pb pj (wX n m S q).2.1 (wX n m S q).1 R)
  (K (.agg ⟨oo (wX n m S q).2.2.1 rb (wX n m S q).2.2.2.1.length rc ab (wX n m S q).2.2.2.2.1.length ac tb (wX n m S q).2.2.2.2.2.length tc⟩))):
 T W (VL v d n pb pj m S R) (fw (some ⟨v,0,none⟩) (eu q s) K):=by
 unfold wX at h;cases he:eX q with
 |true=>
  rw[if_pos he] at h;refine SU G hg hS XF nA bZ hq.any hA hT y5 a8 he fun rb rc r9=>?_;refine gB (e:=14) ?_;refine gB (e:=16) ?_;refine T.perm (h rb rc none 0 none 0 r9) ?_;exact(adJ (l₁:=[own none 0 0 16 [],own none 0 0 14 []]) (l₂:=[_])|>.append_right _).trans (ad2.cons _ (ad2.swap _ _ _))
 |false=>
  rw[if_neg (by rw[he];decide)] at h;refine SW hq.any he fun ab ac tb tc=>?_;refine gB (e:=1) ?_;exact h none 0 ab ac tb tc hg
def Po{e:Int}{rb ab tb:OA}{rc ac tc:Nat}{res:List Int}{al:List aS}{tl:List Move}(hg:Good (bo m))(r9:Md.Ground m)(ho:Out m q e res al tl m2)
 (hlr:res.length≤10000)(y5:al.length≤10000)(a8:tl.length≤10000)
 (hq:mu W [] q s)(TX:q.ag.length<1000000)(Y0:q.aW.length<1000000)(hA:∀a∈q.ag,vy a)(hT:∀t∈q.aW,uY t)
 (h:∀p2 nT nS jd jc R',Bk p m mb mc kb kc (own rb res.length rc 1 (res.flatMap I1)::own ab al.length ac 14 (al.flatMap ak)::own tb tl.length tc 16 (tl.flatMap ai)::R) p2 m2 nT nS jd jc R'→T W (ML p2 m2 nT nS jd jc R') (K (.tuple ⟨[.bool true,.p (some ⟨p2,0,none⟩)]⟩))):
 T W (ML p m mb mc kb kc (own rb res.length rc 1 (res.flatMap I1)::own ab al.length ac 14 (al.flatMap ak)::own tb tl.length tc 16 (tl.flatMap ai)::R)) (aw (oo e rb res.length rc ab al.length ac tb tl.length tc) (some ⟨p,0,none⟩) (eu q s) K):=by
 refine SY (i1:=⟨⟨0,rfl,fun _=>rfl⟩⟩) (i2:=⟨⟨1,rfl,fun _=>rfl⟩⟩) (i3:=⟨⟨2,rfl,fun _=>rfl⟩⟩) hg r9 hlr y5 a8 hq.any TX Y0 hA hT (fun h1=>?_) (fun h1 h2=>?_) (fun h1 h2 h3 p2 nT nS jd jc R' zx TU=>?_) (fun h1 h2 h3=>?_)
 ·cases ho with
  |ask hx=>
   rw[decide_eq_true ⟨rfl,⟨rfl,rfl⟩,rfl⟩];exact h p mb mc kb kc _ (.inl ⟨rfl,rfl,rfl,rfl,rfl,rfl,rfl⟩)
  |bad hx _=>rw[h1] at hx;cases hx
  |done hx _ _=>rw[h1] at hx;cases hx
  |not hx _ _ _=>rw[h1] at hx;cases hx
 ·cases ho with
  |ask hx=>rw[h1] at hx;cases hx
  |bad hx _=>
   rw[decide_eq_true ⟨rfl,rfl⟩];exact h p mb mc kb kc _ (.inl ⟨rfl,rfl,rfl,rfl,rfl,rfl,rfl⟩)
  |done hx hy _=>rw[h2] at hy;cases hy
  |not hx hy _ _=>rw[h2] at hy;cases hy
 ·cases ho with
  |ask hx=>rw[h1] at hx;cases hx
  |bad hx hy=>rw[h2] at hy;cases hy
  |done hx hy hz=>
   rw[decide_eq_true ⟨hz,rfl⟩];exact h p2 nT nS jd jc R' zx
  |not hx hy _ hz=>omega
 ·cases ho with
  |ask hx=>rw[h1] at hx;cases hx
  |bad hx hy=>rw[h2] at hy;cases hy
  |done hx hy hz=>exact absurd rfl h3
  |not hx hy _ hz=>
   rw[decide_eq_true ⟨hz,rfl,rfl,rfl⟩];exact h p mb mc kb kc _ (.inl ⟨rfl,rfl,rfl,rfl,rfl,rfl,rfl⟩)
def T.back{R0 R':LH}(hb:Bk p m mb mc kb kc R0 p2 m2 nT nS jd jc R')(h:T W (ML p2 m2 nT nS jd jc R0) X):T W (ML p2 m2 nT nS jd jc R') X:=by
 rcases hb with⟨rfl,-⟩|rfl
 ·exact h
 ·refine T.sub h ?_;exact nZ
def L4{n:Nat}{S:VS}{m:Model}{g:Nat}(h:VW n S m g)(nA:12≤n)(bZ:n≤4096)(hg:g+2<256)(mR:Good (bo m))(sH:Md.Ground m):Lq (ib n m S).1:=by
 rcases EH h nA bZ hg mR sH with⟨_,a,_⟩|⟨_,a⟩|⟨_,a,_⟩
 ·exact a.ok (by omega)
 ·rw[a];exact h.ok (by omega)
 ·exact a.ok
def xq(n:Nat):VS:=⟨aA.new n,⟨((2+2* bN n:Nat):Int),n,((2+2* bN n:Nat):Int),0,false⟩,0,false⟩
def U8{n:Nat}(nA:12≤n)(bZ:n≤4096):Rm n 0 (xq n):=by
 have hb:2+2* bN n≤n:=by unfold bN;omega
 refine⟨wP bZ,fun j hj=>?_,rfl,rfl,ae5 _,by show((2+2* bN n:Nat):Int)≤(n:Int);omega,⟨ae5 _,by show(0:Int)≤1000000;decide⟩,rfl,rfl,⟨ae5 _,ae5 _⟩⟩;show Sep.Ends 0 ((aA.new n).read (j:Int)).1;rw[tJ bZ hj];exact vn
def U6{n:Nat}(nA:12≤n)(bZ:n≤4096):VW n (xq n) pE 0:=
 ⟨rfl,zM,pE,[],Il nA bZ,rfl,rfl⟩
def qT:jG:=⟨3,[],[],5,[],0,0,0,false,false,false,0⟩
def sT:sf:=⟨none,0,none,0,none,0⟩
def Lp(G:pK W)(h:T W L (K (.bool true))):T W L (cT K):=by
 unfold cT;refine MS fun d=>?_;refine u1 ?_;refine zU G (n:=20) (by decide) (by decide) (Il (by decide) (by decide)) (by decide) fun v pb pj r9=>?_;refine Ps ?_;refine u1 ?_;refine na ?_;refine fx (by decide) ?_;refine c9 ⟨rfl,rfl,trivial⟩ ?_;have LC:=U6 (n:=20) (by decide) (by decide);have aad:=U8 (n:=20) (by decide) (by decide);have WX:eX qT=true:=by decide
 have hqw:iA qT=true:=by decide
 have KR:aK pE qT=(0,[],pE.time 5):=rfl;have hlen:(cr qT).length≤924:=Cs hqw WX;have TV:(cr qT).length=9:=by decide
 have OW:bN 20=7:=by decide
 have yw:room (xq 20).J (bs (cr qT)).size:=by
  rw[bF,TV];show room ⟨((2+2* bN 20:Nat):Int),((20:Nat):Int),((2+2* bN 20:Nat):Int),0,false⟩ _;rw[OW]
  decide
 show T W (VL v d 20 pb pj pE (xq 20) L) (fw (some ⟨v,0,none⟩) (eu qT sT) _);have aaL:hO 20 pE (xq 20) (bs (cr qT))=ma (xq 20) (bs (cr qT)):=by
  unfold hO;rw[if_pos yw]
 obtain⟨a1,-⟩:=uZ (s:=bs (cr qT)) aad (by decide) (by decide) (by decide) yw;have Ey:wX 20 pE (xq 20) qT=((vz 20 pE (xq 20) qT).1,pE.time 5,0,[],[],[]):=by
  unfold wX vz;rw[if_pos WX,if_neg (by rw[hqw];decide),if_neg (by decide),aaL,if_neg (fun hh=>hh a1),KR]
 refine RG (s:=sT) G ql (LC.ok (by decide)) (L4 LC (by decide) (by decide) (by decide) wD ql) (by decide) (by decide) ⟨oz.nil,oz.nil,oz.nil,adG _,adG _,adG _⟩ (fun a ha=>by cases ha) (fun t ht=>by cases ht) (by decide) (by decide) fun rb rc ab ac tb tc Qy=>?_;rcases SP (q:=qT) LC (by decide) (by decide) (by decide) wD ql hqw WX (fun a ha=>by cases ha) (fun t ht=>by cases ht) with⟨b1,b2,b3⟩|⟨e,b0,b1,-⟩|⟨b1,-⟩
 rotate_left
 ·have:=congrArg (fun x=>x.2.1) b1;have h2:=congrArg (fun x=>x.2.2.1) Ey;unfold wX at h2;rw[if_pos WX] at h2;dsimp only at this h2;rw[this] at h2;omega
 ·have:=congrArg (fun x=>x.2.1) b1;have h2:=congrArg (fun x=>x.2.2.1) Ey;unfold wX at h2;rw[if_pos WX] at h2;dsimp only at this h2;rw[this] at h2;cases h2
 rw[Ey];generalize (vz 20 pE (xq 20) qT).1=S2 at b2 b3⊢;rw[KR] at b2;obtain⟨OR,hd,mb,qs,hvg,Ng,htu⟩:=b2;dsimp only at Ng;refine xa (by rfl) ?_
 repeat' first|apply ww|apply wm;intro _|apply wb
 rename_i r1;refine T.perm (L:=fA d S2.D::Sep.pt r1 (oo 0 rb 0 rc ab 0 ac tb 0 tc)::own rb 0 rc 1 []::own ab 0 ac 14 []::own tb 0 tc 16 []::Sep.pt v (vC d 20 pb pj S2.aF S2.fJ)::bn pb (bo (pE.time 5),[])::jP d pj S2.J::L) ?_ (adJ (l₁:=[_,_,_,_,_,_,_]) (l₂:=[_])|>.append_right L);refine zU G (by decide) (by decide) hvg (by decide) fun v2 pb2 pj2 adm=>?_;rw[Ng]
 repeat' first|apply ww|apply wm;intro _|apply wb
 unfold cT.j1;refine lh (by decide) ?_;refine EL fun p4=>?_;refine u1 ?_;refine Ex (p:=p4) ?_;refine na ?_;refine lh (by decide) ?_;refine T.drop ?_;refine SR ?_;refine na ?_;have e1:(S2.J.seq==1)=true:=by rw[b3];rfl
 dsimp only;rw[e1];refine T.sub h ?_;exact nZ
end
end Go.Up
