/- Part of the proof: see the last text. -/
import Derived.Test.YtibneekkkdnmgaaGreatDoorPB
set_option linter.all false
set_option maxRecDepth 100000
set_option synthInstance.maxSize 100000
open Bool renaming eq_iff_iff→cf,false_eq_true→cJ,false_ne_true→cN
open Decidable renaming not_not→bm
open Go.IntKind renaming i64→aa
open Int renaming toNat_natCast→ak,le_refl→tw,fdiv_eq_ediv_of_nonneg→HH
open List renaming map_cons→cW,map_nil→uS,getElem?_eq_getElem→aj,getElem?_eq_some_iff→ao,replicate→bu,append_nil→bO,map_append→cY,getElem?_set→da,getElem?_map→eo,flatMap_append→gA,flatMap_cons→iY,map_map→pD,range→pZ,getElem?_eq_none→qh,ext_getElem?→qN,getElem?_range→rD,mem_of_getElem?→bD,length_cons→bE,mem_or_eq_of_mem_set→eE,length_set→jm,length_replicate→nB,set_cons_succ→nI,getElem?_of_mem→qM,take_length→aS,Perm→bZ,perm_middle→iq,take_succ_eq_append_getElem→qL,length_append→aw,length_take→aD,append_assoc→aI,length_drop→aT,take_add_one→bg,take_append_drop→dy,length_reverse→jC,pairwise_iff_getElem→qx,getElem?_drop→sJ,getElem?_append_left→bh,perm_append_comm→bp,drop_of_length_le→gL,drop_eq_getElem_cons→ij,getElem?_take→sH,length_singleton→qg,Sublist→bj,mem_map→cA,mem_cons→kf,nil_append→cw,set_set→jM,take_zero→ox,reverse_cons→yP,take_left→DG,mem_append→dF,map_congr_left→eg,mem_of_find?_eq_some→nA,find?_eq_none→nJ,mem_singleton→DH,getElem_mem→bP,length_map→bU,getElem?_cons_succ→bT,cons_append→lV,Mem→dQ,getElem?_append_right→iW,filter_cons_of_pos→lQ,filter_cons_of_neg→lR
open Nat renaming zero_add→aC,zero_le→aE,mod_eq_of_lt→fN,mul_le_mul_right→iI,add_mul→mA,mul_comm→wN,pow_le_pow_right→gS,le_refl→aH,add_zero→eL,pow_succ→AB,sub_self→mg,mul_one→mz,min_eq_left→rr
open Option renaming some→aY,map_some→fw,getD_some→dE,isSome_some→dG,isSome_none→fp,getD_none→gV,map→zh
namespace Go.Up
open Go.Sep Go.Den Go.RowKit Go.Prog Go.Md
def KC:∀(xs ys:List Int),xs.length=ys.length->jt (xs.map (.int .i64)) (ys.map (.int .i64))=decide (xs=ys)
 |[],[],_=>rfl
 |[],_::_,h=>by simp at h
 |_::_,[],h=>by simp at h
 |x::xs,y::ys,h=>by
  simp only[cW,jt,Bu];rw[KC xs ys (by simpa using h),cf];simp
def ow{a b:Nat}{xs ys:LV}:jt (nm a++xs) (nm b++ys)=(decide (a=b)&&jt xs ys):=by rw[ud (show(nm a).length=(nm b).length from rfl),aaw]
def KB(t u:cM):jt (aM t) (aM u)=decide (t=u):=by
 have e:=KC [t.cn,t.ba,t.code,t.aq,t.ay,t.jh] [u.cn,u.ba,u.code,u.aq,u.ay,u.jh] rfl;simp only[cW,uS] at e;unfold aM;rw[ow,ow,ow,ow,ow,e];rw[cf];obtain⟨a,b,c,d,e,f,g,h,i,j,k⟩:=t;obtain⟨a',b',c',d',e',f',g',h',i',j',k'⟩:=u;simp[and_assoc]
def Rr(t u:bJ):jt (aL t) (aL u)=decide (t=u):=by
 have e:=KC [t.ba,t.code,t.aq,t.ay] [u.ba,u.code,u.aq,u.ay] rfl;simp only[cW,uS] at e;unfold aL;rw[ow,ow,ow,ow,ow,e];rw[cf];obtain⟨a,b,c,d,e,f,g,h,i⟩:=t;obtain⟨a',b',c',d',e',f',g',h',i'⟩:=u;simp[and_assoc]
def Y7(t u:ch):jt (bF t) (bF u)=decide (t=u):=by
 unfold bF;rw[ud (show(aM t.asked).length=(aM u.asked).length from rfl),ud (show(aM t.move).length=(aM u.move).length from rfl),KB,KB,cf];obtain⟨a,b,c⟩:=t;obtain⟨a',b',c'⟩:=u;simp[jt,Bu]
section
variable {W:World} {L:LH} {K:VK} {a b:bJ} {t u:cM} {k j:ch}
def Qm{K:Bool->WK}(h:T W L (K (decide (t=u)))):T W L (rz [.u 0,.u 0,.u 0,.u 0,.u 0,.u 0,.u 0,.u 0,.u 0,.u 0,.i 0,.i 0,.i 0,.i 0,.i 0,.i 0] (aM t) (aM u) K):=LB rfl rfl (by rw[KB];exact h)
def ac0{K:Bool->WK}(h:T W L (K (decide (a=b)))):T W L (rz [.u 0,.u 0,.u 0,.u 0,.u 0,.u 0,.u 0,.u 0,.u 0,.u 0,.i 0,.i 0,.i 0,.i 0] (aL a) (aL b) K):=LB rfl rfl (by rw[Rr];exact h)
def acZ{K:Bool->WK}(h:T W L (K (decide (k=j)))):T W L (rz [.u 0,.u 0,.u 0,.u 0,.u 0,.u 0,.u 0,.u 0,.u 0,.u 0,.i 0,.i 0,.i 0,.i 0,.i 0,.i 0,.u 0,.u 0,.u 0,.u 0,.u 0,.u 0,.u 0,.u 0,.u 0,.u 0,.i 0,.i 0,.i 0,.i 0,.i 0,.i 0,.i 0] (bF k) (bF j) K):=LB rfl rfl (by rw[Y7];exact h)
def Ql{cs:LV}{n j:Nat}{v:Value}{K:VK}(hj:j<n)(hv:cs[j]?=some v)(h:T W L (K v)):T W L (D6 cs n (j:Int) K):=λw hs=>⟨v,⟨by omega,by omega,by rw[ak];exact hv⟩,h w hs⟩
def WN(ha:0<=a.aq/\a.aq<256)(hb:0<=b.aq/\b.aq<256)(h:T W L (K (.i (ux a b)))):T W L (qv (aL a) (aL b) K):=by
 unfold qv qv.j1
 repeat' first|apply ws;intros|apply wb|with_reducible refine dj (λh1=>?_) (λh1=>?_)|fail
 all_goals
  refine T.fin (T.dp h) ?_
  congr 1
  unfold ux
  all_goals try simp only[aaB ha.1 ha.2,aaB hb.1 hb.2,bz] at *
  all_goals (split<;>omega)
def K9(hf:0<=t.aq/\t.aq<256)(h:T W L (K (.b (decide (ke t.aq))))):T W L (sU (aM t) K):=by
 unfold sU;apply ws;intros;refine T.fin (T.dp h) ?_;congr 1;(rw[cf];(try simp only[bz,false_iff,true_iff] at *)<;>(try simp only[aaA hf.1 hf.2,bm] at *)<;>omega)
def u7(hf:0<=t.aq/\t.aq<256)(h:T W L (K (.b (decide (has t.aq 2))))):T W L (mB (aM t) K):=by
 unfold mB;apply ws;intros;refine T.fin (T.dp h) ?_;congr 1;(rw[cf];(try simp only[bz,false_iff,true_iff] at *)<;>(try simp only[Ns hf.1 hf.2,bm] at *)<;>omega)
def Hr(hf:0<=t.aq/\t.aq<256)(h:T W L (K (.b (decide (has t.aq 16\/has t.aq 32))))):T W L (qW (aM t) K):=by
 unfold qW;apply ws;intros;refine T.fin (T.dp h) ?_;congr 1;(rw[cf];(try simp only[bz,false_iff,true_iff] at *)<;>(try simp only[ae2 hf.1 hf.2,bm] at *)<;>omega)
def LD(ht:0<=t.aq/\t.aq<256)(hu:0<=u.aq/\u.aq<256)(h:T W L (K (.i (tt t u)))):T W L (vd (aM t) (aM u) K):=by
 unfold vd
 repeat' first|apply ws;intros|apply wb|with_reducible refine Qm ?_|fail
 rw[aaz ht.1 ht.2,aaz hu.1 hu.2];unfold tt at h;have e:({t with aq:=t.aq/2* 2}:cM)={u with aq:=u.aq/2* 2}↔({t with aq:=t.aq/2}:cM)={u with aq:=u.aq/2}:=by
  have Re:t.aq/2* 2=u.aq/2* 2↔t.aq/2=u.aq/2:=by omega
  simp only[Md.cM.mk.injEq,Re]
 apply ga<;>intro h1
 ·rw[ai (e.1 (h1))] at h;exact T.dp h
 ·rw[ag (λhh=>h1 (e.2 hh))] at h;exact T.dp h
def EK(f:Int)(i:Nat):Int:=(([2,4,8]:List Int).take i).foldl (λn b=>if has f b then n+1 else n) 0
def Od(hf:0<=t.aq/\t.aq<256)(h:T W L (K (.b (decide (jy t.aq))))):T W L (ln (aM t) K):=by
 unfold ln;apply ws;intros;rename_i r;intro w hs;refine⟨λvs w=>∃i:Nat,i<=3/\vs=[.p (some (ad r 0)),.b false,.i (EK t.aq i),.agg ⟨[.i 2,.i 4,.i 8]⟩,.i (i:Int)]/\St W w (Sep.pt r (aM t)::L),
  λvs _=>match vs with|[_,_,_,_,.int _ j]=>3-j.toNat|_=>0,⟨0,aE _,rfl,hs⟩,?_⟩
 rintro a1 b1 n1 zU n2 w2 ⟨j,hj,e,hs⟩;cases e
 refine T.at ?_ hs;simp only[ig,aC];apply ga<;>intro h1
 ·have bX:j<3:=by omega
  have e5:=nK j;have key:∃m:Int,([.i 2,.i 4,.i 8]:LV)[j]?=some (.i m)/\(dm .i64 .and t.aq m=0↔ ¬has t.aq m)/\EK t.aq (j+1)=(if has t.aq m then EK t.aq j+1 else EK t.aq j)/\0<=EK t.aq j/\EK t.aq j<=j:=by
   match j,bX with
   |0,_=>exact⟨2,rfl,Ns hf.1 hf.2,rfl,tw 0,tw 0⟩
   |1,_=>exact⟨4,rfl,Nr hf.1 hf.2,rfl,by simp only[EK,List.take,List.foldl];split<;>decide,by simp only[EK,List.take,List.foldl];split<;>decide⟩
   |2,_=>exact⟨8,rfl,Wz hf.1 hf.2,rfl,by simp only[EK,List.take,List.foldl];split<;>split<;>decide,by simp only[EK,List.take,List.foldl];split<;>split<;>decide⟩
  obtain⟨m,k1,k2,k3,k4,k5⟩:=key;refine Ql (by omega) k1 ?_
  repeat' first|apply ws;intros|apply wb|with_reducible refine dj (λh1=>?_) (λh1=>?_)|fail
  all_goals rw[e5]
  ·have h2:has t.aq m:=by
    have:=(fP.1 h1);rw[ne_eq,k2,bm] at this;exact this
   rw[ai h2] at k3;rw[aW (by omega),<-k3];exact λw3 h3=>⟨⟨j+1,bX,rfl,h3⟩,by show 3-((j+1:Nat):Int).toNat<3-(j:Int).toNat;omega⟩
  ·have h2: ¬has t.aq m:=k2.1 (bne_eq_false_iff_eq.1 h1);rw[ag h2] at k3;rw[<-k3];exact λw3 h3=>⟨⟨j+1,bX,rfl,h3⟩,by show 3-((j+1:Nat):Int).toNat<3-(j:Int).toNat;omega⟩
 ·have he:j=3:=by omega
  subst he;have hc:EK t.aq 3<=1↔ ¬(has t.aq 2/\has t.aq 4\/has t.aq 2/\has t.aq 8\/has t.aq 4/\has t.aq 8):=by
   simp only[EK,List.take,List.foldl];by_cases h2:has t.aq 2<;>by_cases h4:has t.aq 4<;>by_cases h8:has t.aq 8<;>simp[h2,h4,h8]
  simp only[ln.j1,ig,aC]
  repeat' first|apply ws;intros|apply wb|with_reducible first|refine K9 hf ?_|refine u7 hf ?_|refine dj (λh1=>?_) (λh1=>?_)|fail
  all_goals
   refine T.fin (T.dp h) ?_
   congr 1
   rw[cf]
   all_goals try simp only[aaA hf.1 hf.2,ah8 hf.1 hf.2,ah9 hf.1 hf.2,hc,true_iff,false_iff,bz] at *
   all_goals (unfold jy;simp_all<;>(intros;omega))
def Tr(t:cM):Int:=if t.pending=0 then 16 else if t.ba<0\/4294967296<=t.ba then 8 else if t.code<0\/65536<=t.code then 9 else 0
def Tq(t:cM):Int:=if t.bw=0 then 12 else if t.aP=0 then 13 else if t.bw=t.aP then 14 else if t.pending≠0 then 15 else if t.aU=0/\ ¬has t.aq 16/\ ¬has t.aq 32 then 18
 else if t.ba<1\/4294967296<=t.ba then 8 else if t.code<1\/65536<=t.code then 9 else 0
def V2(h:T W L (K (.i (Tr t)))):T W L (oX (aM t) K):=by
 unfold oX oX.j1
 repeat' first|apply ws;intros|apply wb|with_reducible first|refine vR ?_|refine dj (λh1=>?_) (λh1=>?_)|fail
 all_goals try simp only[bz] at *
 all_goals (refine T.fin (T.dp h) ?_;congr 1;unfold Tr;repeat' split)
 all_goals omega
def Vf(hf:0<=t.aq/\t.aq<256)(h:T W L (K (.i (Tq t)))):T W L (kI (aM t) K):=by
 unfold kI kI.j1 kI.j2
 repeat' first|apply ws;intros|apply wb|with_reducible first|refine vR ?_|refine Hr hf ?_|refine dj (λh1=>?_) (λh1=>?_)|fail
 all_goals try simp only[bz] at *
 all_goals (refine T.fin (T.dp h) ?_;congr 1;unfold Tq has at *;repeat' split)
 all_goals first|rfl|omega
def LC(G:mY W)(ht:Ab t)(h:T W L (K (.i (nG t)))):T W L (fK (aM t) K):=by
 by_cases hf:0<=t.aq/\t.aq<256
 ·unfold fK fK.j1 fK.j2 fK.j4 fK.j3;rw[show nG t=if t.aq<0\/255<t.aq then 3 else if t.id=0 then 4 else if t.id=bG-1 then 5 else if ¬jy t.aq then 6
   else if t.ay≠0\/t.jh≠0 then 7 else if t.cn<0\/1073741824<t.cn\/0<t.cn/\ ¬has t.aq 2 then 17
   else if ke t.aq then Tr t else Tq t from rfl] at h
  repeat' first|apply ws;intros|apply wb|with_reducible first|refine vR ?_|refine Qj ⟨zE _,G.Yr⟩ ?_|refine Od hf ?_|refine K9 hf ?_|refine u7 hf ?_|refine V2 ?_|refine Vf hf ?_|refine dj (λh1=>?_) (λh1=>?_)|fail
  all_goals try simp only[bz] at *
  all_goals (refine T.fin (T.dp h) ?_;congr 1;repeat' split)
  all_goals first|rfl|omega|(simp_all;done)|(simp_all;omega)
 ·unfold fK fK.j1;rw[show nG t=3 from ai (by omega)] at h;apply ws;intros;apply ga<;>intro h1
  ·rw[lz];exact T.dp h
  apply ws;intros;rw[av (by omega),lz];exact T.dp h
end
end Go.Up
namespace Go.Md
def iR(a:bJ)(bw:Bool):Nat:=if bw then a.cq-(a.dp+a.dq) else a.dq-(a.cp+a.cq)
def more(a:bJ)(bw:Bool)(n:Nat)(pending:Bool):bJ×Int:=
 if bw then
  (if bG<=a.dp+a.dq+n then(a,32) else if has a.aq 2/\iR a true<n then(a,33) else(if pending then{a with dp:=a.dp+n} else{a with dq:=a.dq+n},0))
 else
  (if bG<=a.cp+a.cq+n then(a,32) else if has a.aq 4/\iR a false<n then(a,34) else(if pending then{a with cp:=a.cp+n} else{a with cq:=a.cq+n},0))
def aA.full(m:aA)(a:bJ):bJ:=m.ax.foldl xn a
def aA.find(m:aA)(id:Nat):Option bJ:=m.cE.find? λa=>a.id=id
def aA.name(m:aA)(id:Nat):Option Nat:=m.ax.findIdx? λk=>k.move.id=id
def aA.make(m:aA)(a:bJ):Int×aA:=
 if uw a≠0 then(uw a,m) else match m.find a.id with
 |some x=>(ux a x,m)
 |none=>if 32<=m.cE.length then(35,m) else(0,{m with ay:=m.ay+1,cE:=m.cE++[{a with ay:=m.ay+1,aq:=a.aq/2* 2}]})
def aA.kY(m:aA)(asked t:cM)(fate:Int):aA:=
 {m with ay:=m.ay+1,ax:=m.ax++[⟨asked,{t with ay:=m.ay+1,jh:=m.clock},fate⟩]}
def dh(t:cM)(d c:bJ):Nat×Int:=
 let n0:=if t.aU=0 then bG-1 else t.aU
 let n1:=if has t.aq 16 then min n0 (iR d true) else n0
 if has t.aq 16/\n1=0 then(0,33) else
 let n2:=if has t.aq 32 then min n1 (iR c false) else n1
 if has t.aq 32/\n2=0 then(0,34) else(n2,0)
def jU(t:cM)(named:Option ch)(d c:Option bJ)(many:Nat):Int×Nat:=
 if nG t≠0 then(nG t,0) else if ke t.aq then(6,0) else match named with
 |some k=>(tt t k.asked,0)
 |none=>match d with
  |none=>(19,0)
  |some d=>match c with
   |none=>(20,0)
   |some c=>
    if d.ba≠c.ba then(21,0) else if d.ba≠t.ba then(22,0) else if 8<=d.aq then(30,0) else if 8<=c.aq then(31,0)
    else if 96<=many then(35,0)
    else if(dh t d c).2≠0 then((dh t d c).2,0)
    else if(more d true (dh t d c).1 (decide (has t.aq 2))).2≠0 then((more d true (dh t d c).1 (decide (has t.aq 2))).2,0)
    else if(more c false (dh t d c).1 (decide (has t.aq 2))).2≠0 then((more c false (dh t d c).1 (decide (has t.aq 2))).2,0)
    else(0,(dh t d c).1)
def waits(t:cM):Int:=if has t.aq 2 then 1 else 0
def aA.named(m:aA)(id:Nat):Option ch:=m.ax.find? λk=>k.move.id=id
def aA.move(m:aA)(t:cM):Int×aA:=
 let r:=jU t (m.named t.id) ((m.find t.bw).map m.full) ((m.find t.aP).map m.full) m.ax.length
 if r.1≠0 then(r.1,m) else(0,m.kY t {t with aU:=r.2} (waits t))
def aA.closed(m:aA)(id:Nat)(Zt:Nat):Bool:=
 match m.find id with
 |some a=>decide (8<=((m.ax.modify Zt λk=>{k with fate:=3}).foldl xn a).aq)
 |none=>false
def gi(t p:cM):Prop:=(t.bw≠0/\t.bw≠p.bw)\/(t.aP≠0/\t.aP≠p.aP)\/(t.ba≠0/\t.ba≠p.ba)\/(t.code≠0/\t.code≠p.code)
instance(t p:cM):Decidable (gi t p):=by unfold gi;infer_instance
def cV(t p:cM):Nat:=if t.aU=0 then p.aU else t.aU
def mq(t p:cM):Prop:=(has t.aq 4/\p.aU<cV t p)\/(¬has t.aq 4/\cV t p≠p.aU)
instance(t p:cM):Decidable (mq t p):=by unfold mq;infer_instance
def oy(t:cM)(named pend:Option ch)(Zk Zr:Bool)(many:Nat):Int:=
 if nG t≠0 then nG t else if ¬ke t.aq then 6 else match named with
 |some k=>tt t k.asked
 |none=>match pend with
  |none=>23
  |some k=>
   if ¬has k.move.aq 2 then 24 else if gi t k.move then 25 else if 1<k.fate then 25+k.fate else if mq t k.move then 26
   else if has t.aq 4/\Zk=true then 30 else if has t.aq 4/\Zr=true then 31 else if 96<=many then 35 else 0
def cK(t:cM):Int:=if has t.aq 4 then 2 else 3
def mJ(t p:cM):cM:={t with bw:=p.bw,aP:=p.aP,aU:=cV t p,ba:=p.ba,code:=p.code}
def aA.dH(m:aA)(i:Nat)(fate:Int):aA:={m with ax:=m.ax.modify i λk=>{k with fate:=fate}}
def aA.py(m:aA)(t:cM):Int×aA:=
 match m.name t.pending with
 |none=>(oy t (m.named t.id) none false false m.ax.length,m)
 |some i=>match m.ax[i]? with
  |none=>(oy t (m.named t.id) none false false m.ax.length,m)
  |some k=>
   let r:=oy t (m.named t.id) (some k) (m.closed k.move.bw i) (m.closed k.move.aP i) m.ax.length
   if r≠0 then(r,m) else(0,(m.dH i (cK t)).kY t (mJ t k.move) 0)
def kJ(clock:Int)(k:ch):Prop:=k.fate=1/\0<k.move.cn/\k.move.jh+k.move.cn<=clock
instance(clock:Int)(k:ch):Decidable (kJ clock k):=by unfold kJ;infer_instance
def aA.time(m:aA)(now:Int):aA:=
 let clock:=if m.clock<now/\now<=1099511627776 then now else m.clock
 {m with clock:=clock,ax:=m.ax.map λk=>if kJ clock k then{k with fate:=4} else k}
def aA.rA(m:aA)(t:cM):Int×aA:=if nG t=0/\ke t.aq then m.py t else m.move t
def aZ.find(b:aZ)(id:Nat):Option bJ:=b.aB.find? λa=>a.id=id
def aZ.bC(b:aZ)(a:bJ):aZ:={b with aB:=b.aB.map λx=>if x.id=a.id then{a with ay:=x.ay} else x}
def aZ.kY(b:aZ)(asked t:cM)(fate:Int):aZ:=
 {b with ay:=b.ay+1,ax:=b.ax++[⟨asked,{t with ay:=b.ay+1,jh:=b.clock},fate⟩]}
def aZ.fate(b:aZ)(id:Nat)(fate:Int):aZ:={b with ax:=b.ax.map λk=>if k.move.id=id/\k.fate=1 then{k with fate:=fate} else k}
def aZ.make(b:aZ)(a:bJ):Int×aZ:=
 if uw a≠0 then(uw a,b) else match b.find a.id with
 |some x=>(ux a x,b)
 |none=>if 32<=b.aB.length then(35,b) else(0,{b with ay:=b.ay+1,aB:=b.aB++[{a with ay:=b.ay+1,aq:=a.aq/2* 2}]})
def close(a:bJ)(yes:Prop)[Decidable yes]:bJ:=if yes then{a with aq:=a.aq%8+8} else a
def open_(a:bJ)(yes:Prop)[Decidable yes]:bJ:=if yes then{a with aq:=a.aq%8} else a
def aZ.named(b:aZ)(id:Nat):Option ch:=b.ax.find? λk=>k.move.id=id
def aZ.D0(b:aZ)(t:cM)(n:Nat):aZ:=
 match b.find t.bw,b.find t.aP with
 |some d,some c=>((b.bC (close (more d true n (decide (has t.aq 2))).1 (has t.aq 64))).bC (close (more c false n (decide (has t.aq 2))).1 (has t.aq 128))).kY t {t with aU:=n} (waits t)
 |_,_=>b
def aZ.move(b:aZ)(t:cM):Int×aZ:=
 let r:=jU t (b.named t.id) (b.find t.bw) (b.find t.aP) b.ax.length
 if r.1≠0 then(r.1,b) else(0,b.D0 t r.2)
def A9(d:bJ)(p:cM)(n:Nat)(fate:Int):bJ:=if fate=2 then{d with dp:=d.dp-p.aU,dq:=d.dq+n} else open_ {d with dp:=d.dp-p.aU} (has p.aq 64)
def Ca(c:bJ)(p:cM)(n:Nat)(fate:Int):bJ:=if fate=2 then{c with cp:=c.cp-p.aU,cq:=c.cq+n} else open_ {c with cp:=c.cp-p.aU} (has p.aq 128)
def aZ.release(b:aZ)(p:cM)(n:Nat)(fate:Int):aZ:=
 match b.find p.bw,b.find p.aP with
 |some d,some c=>((b.bC (A9 d p n fate)).bC (Ca c p n fate)).fate p.id fate
 |_,_=>b
def aZ.mW(b:aZ)(id:Nat)(by_:Prop)[Decidable by_]:Bool:=match b.find id with|some d=>decide (8<=d.aq/\ ¬by_)|none=>false
def aZ.py(b:aZ)(t:cM):Int×aZ:=
 match b.named t.pending with
 |none=>(oy t (b.named t.id) none false false b.ax.length,b)
 |some k=>
  let r:=oy t (b.named t.id) (some k) (b.mW k.move.bw (has k.move.aq 64)) (b.mW k.move.aP (has k.move.aq 128)) b.ax.length
  if r≠0 then(r,b) else(0,(b.release k.move (cV t k.move) (cK t)).kY t (mJ t k.move) 0)
def aZ.rA(b:aZ)(t:cM):Int×aZ:=if nG t=0/\ke t.aq then b.py t else b.move t
end Go.Md
namespace Go.Up
open Go.Sep Go.Den Go.RowKit Go.Prog Go.Md
section
variable {W:World} {L:LH} {K:VK} {a:bJ} {n m:Nat} {p:Bool}
def aa8{a b:Nat}:(if a+b<bG then a+b else bG-1)<bG:=by unfold bG;split<;>omega
def Qd(G:mY W)(hn:n<bG)(hm:m<bG)(h:T W L (K (.agg ⟨nm (if n+m<bG then n+m else bG-1)⟩))):T W L (ju (nm n) (nm m) K):=by
 unfold ju
 repeat' first|apply ws;intros|apply wb|with_reducible first|refine Ew hn hm ?_|refine Qj ⟨zE _,G.Yr⟩ ?_|refine dj (λh1=>?_) (λh1=>?_)|fail
 all_goals (refine T.fin (T.dp h) ?_;congr 3;all_goals try simp only[bz] at *)
 ·rw[ag (by omega)]
 ·rw[ai h1,ai h1]
def K7(G:mY W)(ha:xR a)(h:T W L (K (.agg ⟨nm (iR a p)⟩))):T W L (dM (aL a) p K):=by
 obtain⟨-,d1,d2,c1,c2,-,-,-,-⟩:=ha;unfold dM;have k1:∀x y z:Nat,x<bG->y<bG->z<bG->(if x<(if y+z<bG then y+z else bG-1) then 0 else x-(if y+z<bG then y+z else bG-1))=x-(y+z):=λx y z hx hy hz=>by
  by_cases hh:y+z<bG
  ·rw[ai hh];split<;>omega
  ·rw[ag hh];split<;>omega
 have e1:p=true->iR a p=a.cq-(a.dp+a.dq):=λe=>by rw[e];rfl
 have e2:p=false->iR a p=a.dq-(a.cp+a.cq):=λe=>by rw[e];rfl
 repeat' first|apply ws;intros|apply wb|with_reducible first|refine Qd G d1 d2 ?_|refine Qd G c1 c2 ?_|refine dj (λh1=>?_) (λh1=>?_)|fail
 all_goals simp only[dM.j1,dM.j2,dM.j3,dM.j4,dM.j5,dM.j6]
 all_goals repeat' first|apply ws;intros|apply wb|with_reducible refine WR (by assumption) aa8 ?_|fail
 all_goals (refine T.fin (T.dp h) ?_;first|rw[e1 (by assumption),k1 _ _ _ (by assumption) (by assumption) (by assumption)]|rw[e2 (by assumption),k1 _ _ _ (by assumption) (by assumption) (by assumption)])
def GP(ha:xR a):iR a p<bG:=by
 have:=ha.dq;have:=ha.cq;unfold iR;split<;>omega
def Ux(x y z:Nat):DP 0 [x,y,z]=if x+y+z<bG then some (x+y+z) else none:=by
 simp only[DP,aC]
 repeat' split
 all_goals first|rfl|omega
def ZN(G:mY W)(ha:xR a)(hn:n<bG)(hf:0<=a.aq/\a.aq<256)(h:T W L (K (.tuple ⟨[.agg ⟨aL (more a true n p).1⟩,.i (more a true n p).2]⟩))):T W L (nY (aL a) (nm n) p K):=by
 unfold nY;apply ws;intros;rename_i r4;refine aaD (l:=[a.dp,a.dq,n]) (by simp;exact⟨ha.dp,ha.dq,hn⟩) (by show 3<1000;decide) ?_;rw[Ux];apply ws;intros;unfold more at h;apply dj<;>intro h1
 ·have hh: ¬a.dp+a.dq+n<bG:=λhh=>by rw[ai hh] at h1;cases h1
  rw[ai rfl,ai (by omega)] at h;apply ws;intros;exact T.dp h
 have hh:a.dp+a.dq+n<bG:=by
  by_cases hh:a.dp+a.dq+n<bG
  ·exact hh
  ·rw[ag hh] at h1;cases h1
 rw[ai rfl,ag (by omega)] at h;have j1:∀r5 r4 r3 r2 r1:Nat,∀c4 c5:LV,T W (Sep.pt r5 c5::Sep.pt r4 c4::Sep.pt r3 (aL zA)::Sep.pt r2 (nm n)::Sep.pt r1 (aL a)::L) (nY.j1 K r1 r3 p r2 (decide (has a.aq 2/\iR a true<n))):=λr5 r4 r3 r2 r1 c4 c5=>by
  unfold nY.j1;apply ga<;>intro h1
  ·rw[ai (h1)] at h;apply ws;intros;exact T.dp h
  rw[ag (h1)] at h;apply dj<;>intro h1
  ·rw[ai h1] at h;have hx:a.dp+n<bG:=by omega
   repeat' first|apply ws;intros|apply wb|with_reducible refine Ew ha.dp hn ?_|fail
   rw[ai hx];exact T.dp h
  ·rw[ag (by rw[h1];decide)] at h;have hx:a.dq+n<bG:=by omega
   repeat' first|apply ws;intros|apply wb|with_reducible refine Ew ha.dq hn ?_|fail
   rw[ai hx];exact T.dp h
 apply ws;intros;apply dj<;>intro h1
 ·have h2:has a.aq 2:=by
   have:=fP.1 h1;rw[ne_eq,Ns hf.1 hf.2,bm] at this;exact this
  repeat' first|apply ws;intros|apply wb|with_reducible first|refine K7 G ha ?_|refine DF ?_|fail
  have e:decide (iR a true<n)=decide (has a.aq 2/\iR a true<n):=by simp[h2]
  rw[e];exact j1 _ _ _ _ _ _ _
 ·have h2: ¬has a.aq 2:=(Ns hf.1 hf.2).1 (bne_eq_false_iff_eq.1 h1);have e:false=decide (has a.aq 2/\iR a true<n):=by simp[h2]
  rw[e];exact j1 _ _ _ _ _ _ _
def Xe(G:mY W)(ha:xR a)(hn:n<bG)(hf:0<=a.aq/\a.aq<256)(h:T W L (K (.tuple ⟨[.agg ⟨aL (more a false n p).1⟩,.i (more a false n p).2]⟩))):T W L (mM (aL a) (nm n) p K):=by
 unfold mM;apply ws;intros;rename_i r4;refine aaD (l:=[a.cp,a.cq,n]) (by simp;exact⟨ha.cp,ha.cq,hn⟩) (by show 3<1000;decide) ?_;rw[Ux];apply ws;intros;unfold more at h;apply dj<;>intro h1
 ·have hh: ¬a.cp+a.cq+n<bG:=λhh=>by rw[ai hh] at h1;cases h1
  rw[ag (by decide),ai (by omega)] at h;apply ws;intros;exact T.dp h
 have hh:a.cp+a.cq+n<bG:=by
  by_cases hh:a.cp+a.cq+n<bG
  ·exact hh
  ·rw[ag hh] at h1;cases h1
 rw[ag (by decide),ag (by omega)] at h;have j1:∀r5 r4 r3 r2 r1:Nat,∀c4 c5:LV,T W (Sep.pt r5 c5::Sep.pt r4 c4::Sep.pt r3 (aL zA)::Sep.pt r2 (nm n)::Sep.pt r1 (aL a)::L) (mM.j1 K r1 r3 p r2 (decide (has a.aq 4/\iR a false<n))):=λr5 r4 r3 r2 r1 c4 c5=>by
  unfold mM.j1;apply ga<;>intro h1
  ·rw[ai (h1)] at h;apply ws;intros;exact T.dp h
  rw[ag (h1)] at h;apply dj<;>intro h1
  ·rw[ai h1] at h;have hx:a.cp+n<bG:=by omega
   repeat' first|apply ws;intros|apply wb|with_reducible refine Ew ha.cp hn ?_|fail
   rw[ai hx];exact T.dp h
  ·rw[ag (by rw[h1];decide)] at h;have hx:a.cq+n<bG:=by omega
   repeat' first|apply ws;intros|apply wb|with_reducible refine Ew ha.cq hn ?_|fail
   rw[ai hx];exact T.dp h
 apply ws;intros;apply dj<;>intro h1
 ·have h2:has a.aq 4:=by
   have:=fP.1 h1;rw[ne_eq,Nr hf.1 hf.2,bm] at this;exact this
  repeat' first|apply ws;intros|apply wb|with_reducible first|refine K7 G ha ?_|refine DF ?_|fail
  have e:decide (iR a false<n)=decide (has a.aq 4/\iR a false<n):=by simp[h2]
  rw[e];exact j1 _ _ _ _ _ _ _
 ·have h2: ¬has a.aq 4:=(Nr hf.1 hf.2).1 (bne_eq_false_iff_eq.1 h1);have e:false=decide (has a.aq 4/\iR a false<n):=by simp[h2]
  rw[e];exact j1 _ _ _ _ _ _ _
end
end Go.Up
namespace Go.Up
open Go.Sep Go.Den Go.RowKit Go.Prog Go.Md Go.cF
section
variable {W:World} {L:LH} {K:VK} {X:WK} {α:Type} {r n c e o j:Nat} {l:List α} {x y:α} {g:α->LV} {f:HP->LH}
def gT{K:LV->WK}[i:u9 (ah r) n c L e (l.flatMap g) f](hf:∀x,(g x).length=e)(hx:l[o]?=some x)(h:T W L (K (g x))):T W L (aJ ⟨r,o* e,none⟩ e K):=λw hs=>by
 obtain⟨k,hk,_⟩:=i.at_;exact E6 hs hk (hf x) (ra hf l o x hx) (h w hs)
def CX{v:Value}[i:u9 (ah r) n c L e (l.flatMap g) f](hf:∀x,(g x).length=e)(hx:l[o]?=some x)(hv:(g x)[j]?=some v)(h:T W L (K v)):T W L (ld ⟨r,o* e+j,none⟩ K):=λw hs=>by
 obtain⟨k,hk,_⟩:=i.at_;exact Bj hs hk (ra hf l o x hx j v hv) (h w hs)
def FT{v:Value}[i:u9 (ah r) n c L e (l.flatMap g) f](hf:∀x,(g x).length=e)(hx:l[o]?=some x)(hv:(g x)[0]?=some v)(h:T W L (K v)):T W L (ld ⟨r,o* e,none⟩ K):=CX (j:=0) hf hx hv h
def Kw(hf:∀x,(g x).length=e)(ho:o<l.length):o* e+e<=(l.flatMap g).length:=by
 rw[Cx hf,<-Nat.succ_mul];exact iI e ho
def rE[i:u9 (ah r) n c L e (l.flatMap g) f](hf:∀x,(g x).length=e)(ho:o<l.length)(h1:∀v∈g x,v.oneCell'=true)
 (h:T W (f (own (ah r) n c e ((l.set o x).flatMap g))) X):T W L (kj ⟨r,o* e,none⟩ (g x) X):=λw hs=>by
 obtain⟨k,hk,e1⟩:=i.at_;refine XS hs hk (by rw[hf];exact Kw hf ho) h1 λw' h'=>h w' ?_;rw[e1,<-GV hf l o x ho];exact h'
def Dr{v:Value}(hf:∀x,(g x).length=e)(hx:l[o]?=some x)(hy:g y=(g x).set j v)(hj:j<e):(l.flatMap g).set (o* e+j) v=(l.set o y).flatMap g:=by
 have ho:=(ao.1 hx).1;have hle:=Kw hf ho;rw[<-GV hf l o y ho];apply qN;intro i;rw[Cg (by rw[hf];exact hle),da];by_cases h1:i<o* e
 ·rw[ai h1,ag (by omega)]
 ·rw[ag h1];by_cases h2:i<o* e+(g y).length
  ·rw[ai h2,hy,da];rw[hf] at h2;obtain⟨m,rfl⟩:∃m,i=o* e+m:=⟨i-o* e,by omega⟩;rw[Nat.add_sub_cancel_left];by_cases h3:j=m
   ·subst h3;rw[ai rfl,ai rfl,ai (by omega),ai (by rw[hf];omega)]
   ·rw[ag (by omega),ag h3];have hm:m<(g x).length:=by rw[hf];omega
    rw[aj hm];exact ra hf l o x hx m _ (aj hm)
  ·rw[ag h2,ag (by rw[hf] at h2;omega)]
def FO{v:Value}[i:u9 (ah r) n c L e (l.flatMap g) f](hf:∀x,(g x).length=e)(hx:l[o]?=some x)(hy:g y=(g x).set j v)(hj:j<e)(h1:v.oneCell'=true)
 (h:T W (f (own (ah r) n c e ((l.set o y).flatMap g))) X):T W L (st ⟨r,o* e+j,none⟩ v X):=λw hs=>by
 obtain⟨k,hk,e1⟩:=i.at_;have ho:=(ao.1 hx).1;have hle:=Kw (g:=g) hf ho;refine CY hs hk (by omega) h1 λw' h'=>h w' ?_;rw[e1,<-Dr hf hx hy hj];exact h'
def JV{bytes:Nat}{zero:LV}{len cap:Int}{K:OA->Nat->Nat->WK}(h0:0<=len/\len<=cap/\cap<=9223372036854775807/\cap* bytes<=281474976710656)
 (hK:∀r,T W (own (ah r) len.toNat cap.toNat zero.length (Builtin.zeroCells ⟨zero⟩ len.toNat).toList::L) (K (ah r) len.toNat cap.toNat)):T W L (Mo bytes zero len cap K):=λw hs=>
 Vg hs h0 λr w' h'=>hK r w' h'
def rV{z:α}{zs:LV}(hz:g z=zs)(m:Nat):(Builtin.zeroCells ⟨zs⟩ m).toList=(bu m z).flatMap g:=by
 subst hz
 induction m with
 |zero=>simp[Builtin.zeroCells]
 |succ m ih=>
  rw[List.replicate_succ',gA,<-ih];simp only[Builtin.zeroCells,Array.toList_map,Array.toList_range,iY,List.flatMap_nil,bO];rw[mA,Nat.one_mul,List.range_add,cY,pD]
  congr 1
  show(pZ (g z).length).map _=g z;apply qN;intro j;rw[eo];by_cases hj:j<(g z).length
  ·rw[rD hj,aj hj];show some _=some _
   congr 1
   simp only[Function.comp];show(⟨g z⟩:Array Value)[(m* (g z).length+j)%(g z).length]! =_;rw[wN,Nat.mul_add_mod,fN hj];simp[hj]
  ·rw[qh (by simpa using hj),qh (by omega)];rfl
end
structure Cell where
 key:Nat
 at_:Int
 kind:Int
def oz(c:Cell):LV:=nm c.key++[.i c.at_,.int .u8 c.kind]
def tq(c:Cell):(oz c).length=4:=rfl
instance{c:Cell}:Ln (oz c) 4:=⟨rfl⟩
instance{c:Cell}:Gt (oz c) 3 (.int .u8 c.kind):=⟨rfl⟩
def At(c:Cell):∀v∈oz c,v.oneCell'=true:=pv (mI _) λv h=>by simp at h;rcases h with rfl|rfl<;>rfl
def Qt(n1 n2:Int):Int:=IntKind.u64.wrap ((dm .u64 .xor (dm .u64 .xor n1 (shl .u64 n2 31)) (shr .u64 n2 33))* 11400714819323198485)
def Qs(x:Int):Int:=dm .u64 .xor x (shr .u64 x 29)
def spread(k:Nat):Int:=Qs (Qt ((k%18446744073709551616:Nat):Int) ((k/18446744073709551616:Nat):Int))
def Pow(N:Nat):Prop:=∃j,3<=j/\j<=20/\N=2^j
def Pow.ge{N:Nat}(h:Pow N):8<=N:=by
 obtain⟨j,h1,h2,rfl⟩:=h;exact gS (by decide) h1 (n:=2)
def Pow.le{N:Nat}(h:Pow N):N<=1048576:=by
 obtain⟨j,h1,h2,rfl⟩:=h;exact gS (by decide) h2 (n:=2)
def Nw{N x:Nat}(h:Pow N)(hx:x<18446744073709551616):dm .u64 .and (x:Int) ((N:Int) -1)=((x%N:Nat):Int):=by
 have h1:=h.ge;have h2:=h.le;obtain⟨j,-,-,rfl⟩:=h;have e:((2^j:Nat):Int) -1=((2^j-1:Nat):Int):=by omega
 rw[e];unfold dm;show IntKind.u64.wrap (((BitVec.ofInt 64 (x:Int)&&&BitVec.ofInt 64 ((2^j-1:Nat):Int)).toNat:Nat):Int)=_;rw[BitVec.toNat_and];have t1:(BitVec.ofInt 64 (x:Int)).toNat=x:=by simp only[BitVec.toNat_ofInt];omega
 have t2:(BitVec.ofInt 64 ((2^j-1:Nat):Int)).toNat=2^j-1:=by simp only[BitVec.toNat_ofInt];omega
 rw[t1,t2,Nat.and_two_pow_sub_one_eq_mod];have:x%2^j<=x:=Nat.mod_le _ _;exact sL (by omega)
def Vm(op:BinOp)(x y:Int)(h:op=.and\/op=.or\/op=.xor\/op=.andNot):0<=dm .u64 op x y/\dm .u64 op x y<18446744073709551616:=by
 rcases h with h|h|h|h<;>subst h<;>(unfold dm;dsimp only;simp only[IntKind.wrap,IntKind.bits,IntKind.signed];simp;omega)
def hh(N k:Nat):Nat:=(spread k).toNat%N
def adN{N:Nat}(h:0<N)(k:Nat):hh N k<N:=Nat.mod_lt _ h
def Oo(k:Nat):0<=spread k/\spread k<18446744073709551616:=by
 unfold spread;generalize Qt _ _=x;unfold Qs;generalize shr .u64 x 29=y;exact Vm .xor x y (by simp)
def Oq{N k:Nat}(h:Pow N):dm .u64 .and (spread k) ((N:Int) -1)=((hh N k:Nat):Int):=by
 obtain⟨h1,h2⟩:=Oo k;unfold hh;generalize spread k=x at h1 h2;obtain⟨n,rfl⟩:∃n:Nat,x=n:=⟨x.toNat,by omega⟩;rw[ak];exact Nw h (by omega)
def NF(cs:List Cell)(i:Nat):Prop:=∃c:Cell,cs[i]?=some c/\c.kind≠0
structure TI(cs:List Cell)(m:Nat->Option Int)(u lf:Nat):Prop where
 pow:Pow cs.length
 kinds:∀c∈cs,c.kind=0\/c.kind=1\/c.kind=2
 used:cs.countP (λc:Cell=>c.kind=1)=u
 left:cs.countP (λc:Cell=>c.kind=2)=lf
 room:4* (u+lf)<=3* cs.length
 run:∀(i:Nat)(c:Cell),cs[i]?=some c->c.kind=1->∃d,d<cs.length/\i=(hh cs.length c.key+d)%cs.length/\∀j,j<d->NF cs ((hh cs.length c.key+j)%cs.length)
 is:∀(i:Nat)(c:Cell),cs[i]?=some c->c.kind=1->m c.key=some c.at_
 has:∀k v,m k=some v->∃(i:Nat)(c:Cell),cs[i]?=some c/\c.kind=1/\c.key=k
 one:∀(i j:Nat)(c d:Cell),cs[i]?=some c->cs[j]?=some d->c.kind=1->d.kind=1->c.key=d.key->i=j
def Wg:∀(cs:List Cell),(∀c∈cs,c.kind=0\/c.kind=1\/c.kind=2)->cs.countP (λc:Cell=>c.kind=0)+cs.countP (λc:Cell=>c.kind=1)+cs.countP (λc:Cell=>c.kind=2)=cs.length
 |[],_=>rfl
 |c::cs,h=>by
  have ih:=Wg cs λd hd=>h d (by simp[hd]);simp only[List.countP_cons,bE];rcases h c (by simp) with e|e|e<;>simp[e]<;>omega
def countP_set{p:Cell->Bool}:∀(cs:List Cell)(i:Nat)(c x:Cell),cs[i]?=some c->(cs.set i x).countP p+(if p c then 1 else 0)=cs.countP p+(if p x then 1 else 0)
 |[],i,c,x,h=>by simp at h
 |d::cs,0,c,x,h=>by
  simp at h;subst h;simp only[List.set_cons_zero,List.countP_cons];omega
 |d::cs,i+1,c,x,h=>by
  have ih:=countP_set (p:=p) cs i c x (by simpa using h);simp only[nI,List.countP_cons];omega
def TI.free{cs:List Cell}{m:Nat->Option Int}{u lf:Nat}(h:TI cs m u lf)(s:Nat)(ha:∀j,j<cs.length->NF cs ((s+j)%cs.length)):False:=by
 have h8:=h.pow.ge;have hc:=Wg cs h.kinds;rw[h.used,h.left] at hc;have h0:0<cs.countP (λc:Cell=>c.kind=0):=by have:=h.room;omega
 rw[List.countP_pos_iff] at h0;obtain⟨c,hm,hk⟩:=h0;obtain⟨i,hi⟩:=qM hm;have bX:=(ao.1 hi).1;have e:(s+(i+cs.length-s%cs.length)%cs.length)%cs.length=i:=by
  have h1:s%cs.length<cs.length:=Nat.mod_lt _ (by omega);rw[Nat.add_mod_mod,Nat.add_mod,];have:s+(i+cs.length-s%cs.length)=cs.length* (s/cs.length+1)+i:=by
   have:=Nat.div_add_mod s cs.length;rw[Nat.mul_add];omega
  rw[<-Nat.add_mod,this,Nat.mul_add_mod,fN bX]
 obtain⟨d,hd,hn⟩:=ha ((i+cs.length-s%cs.length)%cs.length) (Nat.mod_lt _ (by omega));rw[e,hi] at hd;cases hd
 simp at hk;exact hn hk
structure FR(cs:List Cell)(k p:Nat):Prop where
 place:∃(c:Cell)(d:Nat),cs[p]?=some c/\c.kind≠1/\d<cs.length/\p=(hh cs.length k+d)%cs.length/\∀j,j<d->NF cs ((hh cs.length k+j)%cs.length)
 none_:∀(i:Nat)(c:Cell),cs[i]?=some c->c.kind=1->c.key≠k
def xW(m:Nat->Option Int)(k:Nat)(v:Option Int):Nat->Option Int:=λj=>if j=k then v else m j
def NF.set{cs:List Cell}{i p:Nat}{x:Cell}(h:NF cs i)(hx:x.kind≠0):NF (cs.set p x) i:=by
 obtain⟨c,hc,hk⟩:=h;have bX:=(ao.1 hc).1;unfold NF;rw[da];by_cases e:p=i
 ·rw[ai e,ai (by omega)];exact⟨x,rfl,hx⟩
 ·rw[ag e];exact⟨c,hc,hk⟩
def TI.DC{cs:List Cell}{m:Nat->Option Int}{u lf k:Nat}(h:TI cs m u lf)(hn:∀(i:Nat)(c:Cell),cs[i]?=some c->c.kind=1->c.key≠k):m k=none:=by
 cases hm:m k with
 |none=>rfl
 |some v=>
  obtain⟨i,c,h1,h2,h3⟩:=h.has k v hm;exact aQ h3 (hn i c h1 h2)
def wy{cs:List Cell}{p i:Nat}{x c:Cell}(h:(cs.set p x)[i]?=some c):(i=p/\c=x/\p<cs.length)\/(i≠p/\cs[i]?=some c):=by
 rw[da] at h;by_cases e:p=i
 ·rw[ai e] at h;by_cases hl:p<cs.length
  ·rw[ai (by omega)] at h;cases h;exact .inl ⟨e.symm,rfl,hl⟩
  ·rw[ag (by omega)] at h;cases h
 ·rw[ag e] at h;exact .inr ⟨λh=>e h.symm,h⟩
def TI.put{cs:List Cell}{m:Nat->Option Int}{u lf k p:Nat}{v:Int}{c:Cell}(h:TI cs m u lf)(f:FR cs k p)(hp:cs[p]?=some c)(hr:4* (u+lf+1)<=3* cs.length):
 TI (cs.set p ⟨k,v,1⟩) (xW m k (some v)) (u+1) (if c.kind=2 then lf-1 else lf):=by
 obtain⟨⟨c',d,MP,hk,hd,hpd,hj⟩,o7⟩:=f;rw[hp] at MP;cases MP
 have bX:=(ao.1 hp).1;have hl:(cs.set p ⟨k,v,1⟩).length=cs.length:=jm;have c1:=countP_set (p:=λc:Cell=>c.kind=1) cs p c ⟨k,v,1⟩ hp;have c2:=countP_set (p:=λc:Cell=>c.kind=2) cs p c ⟨k,v,1⟩ hp;have oB:c∈cs:=bD hp;have hnk:=h.DC o7;rw[h.used] at c1;rw[h.left] at c2;refine⟨by rw[hl];exact h.pow,?_,?_,?_,?_,?_,?_,?_,?_⟩
 ·intro x hx;rcases eE hx with hx|hx
  ·exact h.kinds x hx
  ·subst hx;exact .inr (.inl rfl)
 ·simp[hk] at c1;simpa using c1
 ·by_cases e:c.kind=2
  ·rw[ai e];simp[e] at c2;simpa using by omega
  ·rw[ag e];simp[e] at c2;simpa using c2
 ·rw[hl];split<;>omega
 ·rw[hl];intro i x hi hx;rcases wy hi with⟨rfl,rfl,_⟩|⟨kN,hi⟩
  ·exact⟨d,hd,hpd,λj h1=>(hj j h1).set (show(1:Int)≠0 by decide)⟩
  ·obtain⟨d',h1,h2,h3⟩:=h.run i x hi hx;exact⟨d',h1,h2,λj h4=>(h3 j h4).set (show(1:Int)≠0 by decide)⟩
 ·intro i x hi hx;rcases wy hi with⟨rfl,rfl,_⟩|⟨kN,hi⟩
  ·simp[xW]
  ·unfold xW;rw[ag (o7 i x hi hx)];exact h.is i x hi hx
 ·intro k' v' BM;unfold xW at BM;by_cases e:k'=k
  ·subst e;exact⟨p,⟨k',v,1⟩,by rw[da,ai rfl,ai bX],rfl,rfl⟩
  ·rw[ag e] at BM;obtain⟨i,x,h1,h2,h3⟩:=h.has k' v' BM;refine⟨i,x,?_,h2,h3⟩;rw[da,ag]
   ·exact h1
   ·intro e2;subst e2;rw[hp] at h1;cases h1;exact hk h2
 ·intro i j x y hi NW hx hy he;rcases wy hi with⟨rfl,rfl,_⟩|⟨kN,hi⟩<;>rcases wy NW with⟨rfl,rfl,_⟩|⟨afr,NW⟩
  ·rfl
  ·exact aQ he.symm (o7 j y NW hy)
  ·exact aQ he (o7 i x (by assumption) hx)
  ·exact h.one i j x y (by assumption) (by assumption) hx hy he
def TI.drop{cs:List Cell}{m:Nat->Option Int}{u lf p:Nat}{c:Cell}(h:TI cs m u lf)(hp:cs[p]?=some c)(hk:c.kind=1):
 TI (cs.set p ⟨0,0,2⟩) (xW m c.key none) (u-1) (lf+1)/\1<=u:=by
 have bX:=(ao.1 hp).1;have hl:(cs.set p ⟨0,0,2⟩).length=cs.length:=jm;have c1:=countP_set (p:=λc:Cell=>c.kind=1) cs p c ⟨0,0,2⟩ hp;have c2:=countP_set (p:=λc:Cell=>c.kind=2) cs p c ⟨0,0,2⟩ hp;rw[h.used] at c1;rw[h.left] at c2;have hu:1<=u:=by simp[hk] at c1;omega
 refine⟨⟨by rw[hl];exact h.pow,?_,?_,?_,by rw[hl];have:=h.room;omega,?_,?_,?_,?_⟩,hu⟩
 ·intro x hx;rcases eE hx with hx|hx
  ·exact h.kinds x hx
  ·subst hx;exact .inr (.inr rfl)
 ·simp[hk] at c1;simpa using by omega
 ·simp[hk] at c2;simpa using c2
 ·rw[hl];intro i x hi hx;rcases wy hi with⟨rfl,rfl,_⟩|⟨kN,hi⟩
  ·exact aQ hx (by decide)
  ·obtain⟨d',h1,h2,h3⟩:=h.run i x hi hx;exact⟨d',h1,h2,λj h4=>(h3 j h4).set (by decide)⟩
 ·intro i x hi hx;rcases wy hi with⟨rfl,rfl,_⟩|⟨kN,hi⟩
  ·exact aQ hx (by decide)
  ·have:x.key≠c.key:=λe=>kN (h.one i p x c hi hp hx hk e);unfold xW;rw[ag this];exact h.is i x hi hx
 ·intro k' v' BM;unfold xW at BM;by_cases e:k'=c.key
  ·rw[ai e] at BM;cases BM
  ·rw[ag e] at BM;obtain⟨i,x,h1,h2,h3⟩:=h.has k' v' BM;refine⟨i,x,?_,h2,h3⟩;rw[da,ag]
   ·exact h1
   ·intro e2;subst e2;rw[hp] at h1;cases h1;exact e h3.symm
 ·intro i j x y hi NW hx hy he;rcases wy hi with⟨rfl,rfl,_⟩|⟨kN,hi⟩<;>rcases wy NW with⟨rfl,rfl,_⟩|⟨afr,NW⟩
  ·rfl
  ·exact aQ hx (by decide)
  ·exact aQ hy (by decide)
  ·exact h.one i j x y (by assumption) (by assumption) hx hy he
def TI.new{N:Nat}(h:Pow N):TI (bu N ⟨0,0,0⟩) (λ_=>none) 0 0:=by
 refine⟨by rw[nB];exact h,?_,?_,?_,by omega,?_,?_,?_,?_⟩
 ·intro c hc;rw[List.eq_of_mem_replicate hc];exact .inl rfl
 ·rw[List.countP_replicate];rfl
 ·rw[List.countP_replicate];rfl
 ·intro i c hi hk;have:=List.eq_of_mem_replicate (bD hi);subst this;exact aQ hk (by decide)
 ·intro i c hi hk;have:=List.eq_of_mem_replicate (bD hi);subst this;exact aQ hk (by decide)
 ·intro k v hk;cases hk
 ·intro i j c d hi hj hk;have:=List.eq_of_mem_replicate (bD hi);subst this;exact aQ hk (by decide)
def Seen(cs:List Cell)(k d:Nat):Prop:=∀j,j<d->∃c:Cell,cs[(hh cs.length k+j)%cs.length]?=some c/\c.kind≠0/\ ¬(c.kind=1/\c.key=k)
def Seen.nf{cs:List Cell}{k d:Nat}(h:Seen cs k d):∀j,j<d->NF cs ((hh cs.length k+j)%cs.length):=λj hj=>by
 obtain⟨c,h1,h2,_⟩:=h j hj;exact⟨c,h1,h2⟩
def Seen.succ{cs:List Cell}{k d:Nat}{c:Cell}(h:Seen cs k d)(hc:cs[(hh cs.length k+d)%cs.length]?=some c)(h0:c.kind≠0)(h1: ¬(c.kind=1/\c.key=k)):Seen cs k (d+1):=λj hj=>by
 by_cases e:j=d
 ·subst e;exact⟨c,hc,h0,h1⟩
 ·exact h j (by omega)
def Seen.DC{cs:List Cell}{m:Nat->Option Int}{u lf k d:Nat}{c:Cell}(ht:TI cs m u lf)(h:Seen cs k d)(hd:d<cs.length)(hc:cs[(hh cs.length k+d)%cs.length]?=some c)(h0:c.kind=0):
 ∀(i:Nat)(c:Cell),cs[i]?=some c->c.kind=1->c.key≠k:=by
 intro i x hi hx he;obtain⟨d',h1,h2,h3⟩:=ht.run i x hi hx;rw[he] at h2 h3;by_cases e1:d'<d
 ·obtain⟨y,g1,g2,g3⟩:=h d' e1;rw[<-h2,hi] at g1;cases g1;exact g3 ⟨hx,he⟩
 ·by_cases e2:d<d'
  ·obtain⟨y,g1,g2⟩:=h3 d e2;rw[hc] at g1;cases g1;exact g2 h0
  ·have:d=d':=by omega
   subst this;rw[<-h2,hi] at hc;cases hc;rw[h0] at hx;cases hx
section
variable {y z:Cell} {x1 x2 x3 x4:Value}
instance:Wr [x1,x2,x3,x4] 0 (oz y) (oz y):=⟨rfl,aH _,At y⟩
instance:Sub (oz y) 0 2 (nm y.key):=⟨AE rfl rfl⟩
instance:Sub (oz y) 0 4 (oz y):=⟨rfl,λj v h=>by rw[aC];exact h⟩
end
def pF(t:Nat)(x:(Nat->Option Int)×Nat):HP:=
 TT λq:OA×Nat×List Cell×Nat=>EL (TI q.2.2.1 x.1 x.2 q.2.2.2) (sep (Sep.pt t [.l q.1 q.2.2.1.length q.2.1,.i (x.2:Int),.i (q.2.2.2:Int)]) (own q.1 q.2.2.1.length q.2.1 4 (q.2.2.1.flatMap oz)))
section
variable {W:World} {L:LH} {K:VK} {X:WK} {t:Nat} {x:(Nat->Option Int)×Nat} {f:(Nat->Option Int)×Nat->LH}
def Ui[i:Lc (pF t) L x f](h:∀b c cs lf R,TI cs x.1 x.2 lf->(∀b' c' xg u' NR m' Y,TI xg m' u' NR->T W (f (m',u')) Y->T W (Sep.pt t [.l b' xg.length c',.i (u':Int),.i (NR:Int)]::own b' xg.length c' 4 (xg.flatMap oz)::R) Y)->
 T W (Sep.pt t [.l b cs.length c,.i (x.2:Int),.i (lf:Int)]::own b cs.length c 4 (cs.flatMap oz)::R) X):T W L X:=
 Uk (P:=pF t) λR hc w hs=>by
  obtain⟨⟨b,c,cs,lf⟩,hs⟩:=hs.ex;obtain⟨ht,hs⟩:=hs.and;refine h b c cs lf R ht (λb' c' xg u' NR m' Y MA hy w h'=>hc (m',u') Y hy w ?_) w hs.split;exact St.rh (b',c',xg,NR) (St.and_intro MA (St.join h'))
def T.afc{A B C:HP}{R:LH}(h:T W (A::B::C::R) X):T W (C::A::B::R) X:=T.perm h (iq (l₁:=[A,B])).symm
def UA{k:Nat}(h:T W L (K (.u (spread k)))):T W L (uM (nm k) K):=by
 unfold uM
 repeat' first|apply ws;intros|apply wb|with_reducible refine dO (by decide) ?_|fail
 refine T.fin (T.dp h) ?_
 rfl
def aaI{N:Nat}(h1:1<=N)(h2:N<=1048576):IntKind.u64.wrap (aa.wrap ((N:Int) -1))=(N:Int) -1:=by
 rw[aW (by omega)];obtain⟨n,hn⟩:∃n:Nat,(N:Int) -1=n:=⟨N-1,by omega⟩;rw[hn];exact sL (by omega)
def II{N a d:Nat}(ha:a<N)(hd:d<N):((a+d)%N+N-a)%N=d:=by
 by_cases h:a+d<N
 ·rw[fN h,show a+d+N-a=N+d by omega,Nat.add_mod_left,fN hd]
 ·have:(a+d)%N=a+d-N:=by rw[Nat.mod_eq_sub_mod (by omega),fN (by omega)]
  rw[this,show a+d-N+N-a=d by omega,fN hd]
def Uz{N a d:Nat}(hN:Pow N):dm .u64 .and (IntKind.u64.wrap ((((a+d)%N:Nat):Int)+1)) ((N:Int) -1)=(((a+(d+1))%N:Nat):Int):=by
 have h1:=hN.le;have h2:=hN.ge;have h3:(a+d)%N<N:=Nat.mod_lt _ (by omega);rw[show(((a+d)%N:Nat):Int)+1=(((a+d)%N+1:Nat):Int) by omega,sL (by omega),Nw hN (by omega)]
 congr 1
 rw[Nat.mod_add_mod];rfl
def Kx{b:OA}{c u lf k:Nat}{cs:List Cell}{m:Nat->Option Int}{x1 x2:Value}{f:LV->LH}{g:HP->LH}[i:Lc (Sep.pt t) L [.l b cs.length c,x1,x2] f][j:u9 b cs.length c L 4 (cs.flatMap oz) g](ht:TI cs m u lf)
 (h1:∀(i:Nat)(y:Cell),cs[i]?=some y->y.kind=1->y.key=k->T W L (K (.tuple ⟨[.i (i:Int),.b true]⟩)))
 (h2:∀p:Nat,FR cs k p->T W L (K (.tuple ⟨[.i (p:Int),.b false]⟩))):T W L (dz (ah t) (nm k) K):=by
 have hN8:=ht.pow.ge;have hNl:=ht.pow.le;have hhl:=adN (N:=cs.length) (by omega) k;unfold dz
 repeat' first|apply ws;intros|apply wb|with_reducible refine UA ?_|fail
 rename_i r1;intro w hs;rw[aaI (by omega) hNl,Oq ht.pow];refine⟨λvs w=>∃(d:Nat)(put:Int),d<cs.length/\Seen cs k d/\(put= -1\/∃(dp:Nat)(z:Cell),dp<d/\put=(((hh cs.length k+dp)%cs.length:Nat):Int)/\cs[(hh cs.length k+dp)%cs.length]?=some z/\z.kind=2)/\
                           vs=[.p (some (ad r1 0)),.i 0,.b false,.u ((cs.length:Int) -1),.i put,.u (((hh cs.length k+d)%cs.length:Nat):Int)]/\St W w (Sep.pt r1 (nm k)::L),
  λvs _=>match vs with|[_,_,_,_,_,.int _ n]=>cs.length-(n.toNat+cs.length-hh cs.length k)%cs.length|_=>0,
  ⟨0,-1,by omega,λj hj=>by omega,.inl rfl,by rw[eL,fN hhl],hs⟩,?_⟩
 rintro a1 n1 b1 n2 put n4 w2 ⟨d,aiE,hd,MC,SP,e,hs⟩;cases e
 refine T.at ?_ hs;have bX:(hh cs.length k+d)%cs.length<cs.length:=Nat.mod_lt _ (by omega);have hy:=aj bX;generalize cs[(hh cs.length k+d)%cs.length]=y at hy;have oB:y∈cs:=bD hy;have ewr:aa.wrap (((hh cs.length k+d)%cs.length:Nat):Int)=(((hh cs.length k+d)%cs.length:Nat):Int):=aW (by omega);apply ws;intros;refine dL ⟨by omega,by omega⟩ λr hr=>?_;subst hr;rw[ak];refine gT tq hy ?_;have next:∀(r2:Nat)(UU:Int),y.kind≠0-> ¬(y.kind=1/\y.key=k)->(UU=put\/UU=(((hh cs.length k+d)%cs.length:Nat):Int)/\y.kind=2)->
                                                                                                                                                                                                                                                                                                                                                                        T W (Sep.pt r2 (oz y)::Sep.pt r1 (nm k)::L) (λw4=>(∃(d':Nat)(put:Int),d'<cs.length/\Seen cs k d'/\(put= -1\/∃(dp:Nat)(z:Cell),dp<d'/\put=(((hh cs.length k+dp)%cs.length:Nat):Int)/\cs[(hh cs.length k+dp)%cs.length]?=some z/\z.kind=2)/\
                                                                                                                                                                                                                                                                                                                                                                        [Value.pointer (some (ad r1 0)),.i 0,.b false,.u ((cs.length:Int) -1),.i UU,.u (((hh cs.length k+(d+1))%cs.length:Nat):Int)]=[.p (some (ad r1 0)),.i 0,.b false,.u ((cs.length:Int) -1),.i put,.u (((hh cs.length k+d')%cs.length:Nat):Int)]/\St W w4 (Sep.pt r1 (nm k)::L))/\
                                                                                                                                                                                                                                                                                                                                                                        cs.length-((((hh cs.length k+(d+1))%cs.length:Nat):Int).toNat+cs.length-hh cs.length k)%cs.length<cs.length-((((hh cs.length k+d)%cs.length:Nat):Int).toNat+cs.length-hh cs.length k)%cs.length):=by
  intro r2 UU k0 k1 hp';have Vs:=MC.succ hy k0 k1;have hd':d+1<cs.length:=by
   by_cases hc:d+1<cs.length
   ·exact hc
   ·exact aQ (λj hj=>Vs.nf j (by omega)) λhh=>ht.free _ hh
  refine T.drop λw3 h3=>⟨⟨d+1,UU,hd',Vs,?_,rfl,h3⟩,?_⟩
  ·rcases hp' with rfl|⟨rfl,h2k⟩
   ·exact SP.imp id λ⟨dp,z,g1,g2,g3,g4⟩=>⟨dp,z,by omega,g2,g3,g4⟩
   ·exact .inr ⟨d,y,by omega,rfl,hy,h2k⟩
  ·rw[ak,ak,II hhl hd,II hhl hd'];omega
 apply ws;intros;rename_i r2;unfold dz.j1 dz.j2 dz.j3;simp only[Uz ht.pow,ewr];apply dj<;>intro g0
 ·have k0:y.kind=0:=by simpa using g0
  apply dj<;>intro g1
  ·refine T.drop (T.drop (h2 _ ⟨⟨y,d,hy,by omega,hd,rfl,MC.nf⟩,MC.DC ht hd hy k0⟩))
  ·have g2: ¬put<0:=by simpa using g1
   apply ws;intros;refine mP (by simpa using k0) ?_;rcases SP with rfl|⟨dp,z,q1,rfl,q3,q4⟩
   ·omega
   ·refine T.drop (T.drop (h2 _ ⟨⟨z,dp,q3,by omega,by omega,rfl,λj hj=>MC.nf j (by omega)⟩,MC.DC ht hd hy k0⟩))
 ·have k0:y.kind≠0:=by simpa using g0
  apply ws;intros;refine fW (by simpa using k0) ?_;apply ws;intros;apply dj<;>intro g1
  ·have k2:y.kind=2:=by simpa using g1
   apply dj<;>intro g2
   ·exact next r2 _ k0 (by omega) (.inr ⟨rfl,k2⟩)
   ·apply ws;intros;refine fW (by rw[k2];rfl) ?_;apply ws;intros;exact next r2 put k0 (by omega) (.inl rfl)
  ·have k1:y.kind=1:=by
    have:=ht.kinds y oB;have:y.kind≠2:=by simpa using g1
    omega
   apply ws;intros;refine mP (by rw[k1];rfl) ?_;apply ws;intros;apply dj<;>intro g2
   ·refine T.drop (T.drop (h1 _ y hy k1 (by simpa using g2)))
   ·exact next r2 put k0 (λhh=>by simp[hh.2] at g2) (.inl rfl)
def Eu{k:Nat}[i:Lc (pF t) L x f](h:T W L (K (.tuple ⟨[.i ((x.1 k).getD 0),.b (x.1 k).isSome]⟩))):T W L (iD (ah t) (nm k) K):=by
 unfold iD;refine uH λr1=>fW rfl ?_;apply ws;intros;refine Ui (t:=t) λb c cs lf R ht hc=>?_;have close:=hc b c cs x.2 lf x.1;have hL:f (x.1,x.2)=L:=i.same;rw[<-hL] at h;refine Kx ht (λi y hy hk he=>?_) (λp hp=>?_)
 ·apply ws;intros;have bX:=(ao.1 hy).1;refine dL ⟨by omega,by omega⟩ λr hr=>?_;subst hr;rw[ak];refine Qk ?_;refine CX (r:=r) (j:=2) tq hy rfl ?_;apply ws;intros;have e:=ht.is i y hy hk;rw[he] at e;rw[e] at h;exact close _ ht (T.drop h)
 ·apply ws;intros;rw[ht.DC hp.none_] at h;exact close _ ht (T.drop h)
def Xd{k:Nat}[i:Lc (pF t) L x f](hu:x.2<=1000)(h:(x.1 k).isSome=true->T W (f (xW x.1 k none,x.2-1)) (K (.b true)))(h0:x.1 k=none->T W L (K (.b false))):T W L (oK (ah t) (nm k) K):=by
 unfold oK;refine uH λr1=>fW rfl ?_;apply ws;intros;refine Ui (t:=t) λb c cs lf R ht hc=>?_;have hL:f (x.1,x.2)=L:=i.same;rw[<-hL] at h0;refine Kx ht (λi y hy hk he=>?_) (λp hp=>?_)
 ·apply ws;intros;have bX:=(ao.1 hy).1;refine dL ⟨by omega,by omega⟩ λr hr=>?_;subst hr;rw[ak];have hN:=ht.pow.le;have MD:=ht.room;obtain⟨MA,hu1⟩:=ht.drop hy hk;rw[he] at MA;have e:=ht.is i y hy hk;rw[he] at e;refine dO rfl ?_;show T W _ (kj _ (oz ⟨0,0,2⟩) _);refine rE tq bX (At _) ?_;apply ws;intros;rw[aW (by omega),aW (by omega),show(x.2:Int) -1=((x.2-1:Nat):Int) by omega,show(lf:Int)+1=((lf+1:Nat):Int) by omega];have:=hc (ah r) c _ _ _ _ _ MA (T.drop (h (by rw[e];rfl)));rw[jm] at this;exact this
 ·apply ws;intros;exact hc _ _ _ _ _ _ _ ht (T.drop (h0 (ht.DC hp.none_)))
structure Part(cs:List Cell)(i:Nat)(m':Nat->Option Int)(u':Nat):Prop where
 toX:∀(k:Nat)(v:Int),m' k=some v->∃(j:Nat)(y:Cell),j<i/\cs[j]?=some y/\y.kind=1/\y.key=k/\y.at_=v
 from_:∀(j:Nat)(y:Cell),j<i->cs[j]?=some y->y.kind=1->m' y.key=some y.at_
 n:u'=(cs.take i).countP (λc:Cell=>c.kind=1)
def Part.same{cs:List Cell}{m m':Nat->Option Int}{u lf u':Nat}(ht:TI cs m u lf)(hp:Part cs cs.length m' u'):m'=m/\u'=u:=by
 constructor
 ·funext k
  cases hm:m' k with
  |some v=>
   obtain⟨j,y,h1,h2,h3,h4,h5⟩:=hp.toX k v hm;have:=ht.is j y h2 h3;rw[h4,h5] at this;exact this.symm
  |none=>
   cases hk:m k with
   |none=>rfl
   |some v=>
    obtain⟨j,y,h2,h3,h4⟩:=ht.has k v hk;have:=hp.from_ j y (ao.1 h2).1 h2 h3;rw[h4,hm] at this;cases this
 ·rw[hp.n,aS,ht.used]
def zq(cs:List Cell)(p:Cell->Bool){i:Nat}{y:Cell}(hy:cs[i]?=some y):(cs.take (i+1)).countP p=(cs.take i).countP p+(if p y then 1 else 0):=by
 have bX:=(ao.1 hy).1;rw[qL bX,List.countP_append];have:cs[i]=y:=by rw[aj bX] at hy;exact aY.inj hy
 rw[this,List.countP_singleton]
def abW{b:OA}{c u lf:Nat}{cs:List Cell}{m:Nat->Option Int}{R:LH}(ht:TI cs m u lf)(hu:u<=1000)
 (h:∀b' c' xg,TI xg m u 0->3* (u+1)<=xg.length->T W (Sep.pt t [.l b' xg.length c',.i (u:Int),.i 0]::own b' xg.length c' 4 (xg.flatMap oz)::R) (K (.tuple ⟨[]⟩))):
 T W (Sep.pt t [.l b cs.length c,.i (u:Int),.i (lf:Int)]::own b cs.length c 4 (cs.flatMap oz)::R) (qG (ah t) K):=by
 unfold qG;have hN8:=ht.pow.ge;have hNl:=ht.pow.le;apply ws;intros;intro w hs;refine⟨λvs w=>∃n:Nat,Pow n/\n<=6* (u+1)+8/\vs=[.l b cs.length c,.i (n:Int)]/\St W w (Sep.pt t [.l b cs.length c,.i (u:Int),.i (lf:Int)]::own b cs.length c 4 (cs.flatMap oz)::R),
  λvs _=>match vs with|[_,.int _ n]=>3* (u+1) -n.toNat|_=>0,⟨8,⟨3,by decide,by decide,rfl⟩,by omega,rfl,hs⟩,?_⟩
 rintro jT jd ku n1 w2 ⟨n,hn,hnb,e,hs⟩;cases e
 refine T.at ?_ hs;have hn8:=hn.ge;apply ws;intros;rw[aW (show-9223372036854775808<=(u:Int)+1/\(u:Int)+1<=9223372036854775807 by omega),aW (by omega)];apply ga<;>intro h1
 ·have h1:(n:Int)<3* ((u:Int)+1):=h1;rw[aW (by omega)];refine λw3 h3=>⟨⟨n* 2,?_,by omega,by rw[show(n:Int)* 2=((n* 2:Nat):Int) by omega],h3⟩,?_⟩
  ·obtain⟨j,j1,j2,j3⟩:=hn;refine⟨j+1,by omega,?_,by rw[AB,j3]⟩;by_cases hj:j+1<=20
   ·exact hj
   ·have:j=20:=by omega
    subst this;have:n=1048576:=by rw[j3]
    omega
  ·show 3* (u+1) -((n:Int)* 2).toNat<3* (u+1) -(n:Int).toNat;omega
 have h1: ¬(n:Int)<3* ((u:Int)+1):=h1;refine JV ⟨by omega,by omega,by omega,by omega⟩ λr=>?_;rw[ak,rV (g:=oz) (z:=⟨0,0,0⟩) (zs:=[.u 0,.u 0,.i 0,.int .u8 0]) rfl];show T W (own (ah r) n n 4 ((bu n (⟨0,0,0⟩:Cell)).flatMap oz)::_) _;apply ws;intros;intro w4 hs;refine⟨λvs w=>∃(i:Nat)(xg:List Cell)(m':Nat->Option Int)(u':Nat),i<=cs.length/\xg.length=n/\TI xg m' u' 0/\Part cs i m' u'/\vs=[.l b cs.length c,.i (cs.length:Int),.i (i:Int)]/\
                                                                                                St W w (own (ah r) n n 4 (xg.flatMap oz)::Sep.pt t [.l (ah r) n n,.i (u:Int),.i 0]::own b cs.length c 4 (cs.flatMap oz)::R),
  λvs _=>match vs with|[_,_,.int _ i]=>cs.length-i.toNat|_=>0,
  ⟨0,bu n ⟨0,0,0⟩,λ_=>none,0,by omega,nB,TI.new hn,⟨(λk v hh=>by cases hh),(λj y hj=>by omega),by simp⟩,rfl,hs⟩,?_⟩
 rintro tD sK tC n3 n4 w5 ⟨i,xg,m',u',hi,NV,MA,hp,e,hs⟩;cases e
 refine T.at ?_ hs;apply ga<;>intro g1
 ·have bX:i<cs.length:=by omega
  have e5:=nK i;have hy:=aj bX;generalize cs[i]=y at hy;have hut:u'+(if y.kind=1 then 1 else 0)<=u:=by
   have e1:=zq cs (λc:Cell=>c.kind=1) hy;have e2:(cs.take (i+1)).countP (λc:Cell=>c.kind=1)<=cs.countP (λc:Cell=>c.kind=1):=(List.take_sublist _ _).countP_le;rw[ht.used,e1,<-hp.n] at e2;simpa using e2
  refine dL ⟨by omega,by omega⟩ λrb Ko=>?_;subst Ko;rw[ak];refine gT tq hy ?_;apply ws;intros;rw[e5];apply dj<;>intro g2
  ·have k1:y.kind=1:=by simpa using g2
   rw[ai k1] at hut;apply ws;intros;subst NV;have o7:m' y.key=none:=by
    cases hm:m' y.key with
    |none=>rfl
    |some v=>
     obtain⟨j,z,q1,q2,q3,q4,q5⟩:=hp.toX _ _ hm;have:=ht.one j i z y q2 hy q3 k1 q4;omega
   refine Kx MA (λi2 z hz hk he=>?_) (λp SY=>?_)
   ·have:=MA.is i2 z hz hk;rw[he,o7] at this;cases this
   apply ws;intros;obtain⟨z,d,hz,hzk,_⟩:=SY.place;have Cs:=(ao.1 hz).1;refine tN ⟨by omega,by omega⟩ ?_;rw[ak];apply ws;intros;refine rE tq Cs (At _) ?_;have OY:=MA.put (v:=y.at_) SY hz (by omega);have hz2:z.kind≠2:=λhh=>by
    have:=List.countP_eq_zero.1 MA.left z (bD hz);simp[hh] at this
   rw[ag hz2] at OY;have ey:(⟨y.key,y.at_,1⟩:Cell)=y:=by rw[<-k1]
   rw[ey] at OY;refine T.drop λw6 h6=>⟨⟨i+1,xg.set p y,xW m' y.key (some y.at_),u'+1,bX,jm,OY,⟨?_,?_,?_⟩,rfl,h6⟩,by show cs.length-((i+1:Nat):Int).toNat<cs.length-(i:Int).toNat;omega⟩
   ·intro k v hk;unfold xW at hk;by_cases ek:k=y.key
    ·rw[ai ek] at hk;cases hk;exact⟨i,y,by omega,hy,k1,ek.symm,rfl⟩
    ·rw[ag ek] at hk;obtain⟨j,z,q1,q2⟩:=hp.toX k v hk;exact⟨j,z,by omega,q2⟩
   ·intro j z hj Xk hzk;unfold xW;by_cases ek:z.key=y.key
    ·have:=ht.one j i z y Xk hy hzk k1 ek;subst this;rw[hy] at Xk;cases Xk
     rw[ai rfl]
    ·rw[ag ek];refine hp.from_ j z ?_ Xk hzk;by_cases ej:j=i
     ·subst ej;rw[hy] at Xk;cases Xk;exact aQ rfl ek
     ·omega
   ·rw[zq cs _ hy,hp.n];simp[k1]
  ·have k1: ¬y.kind=1:=by simpa using g2
   refine T.drop λw6 h6=>⟨⟨i+1,xg,m',u',bX,NV,MA,⟨?_,?_,?_⟩,rfl,h6⟩,by show cs.length-((i+1:Nat):Int).toNat<cs.length-(i:Int).toNat;omega⟩
   ·intro k v hk;obtain⟨j,z,q1,q2⟩:=hp.toX k v hk;exact⟨j,z,by omega,q2⟩
   ·intro j z hj Xk hzk;refine hp.from_ j z ?_ Xk hzk;by_cases ej:j=i
    ·subst ej;rw[hy] at Xk;cases Xk;exact aQ hzk k1
    ·omega
   ·rw[zq cs _ hy,hp.n];simp[k1]
 ·have he:i=cs.length:=by omega
  subst he;obtain⟨rfl,rfl⟩:=hp.same ht;subst NV;have:=h (ah r) xg.length xg MA (by omega);exact λw hs=>this w ((hs.perm (bZ.swap _ _ _)).focus (k:=2) rfl).drop
def L8{b:OA}{c u lf k:Nat}{v:Int}{cs:List Cell}{m:Nat->Option Int}{R:LH}{r1:Nat}{g:LV->LH}[i:Lc (Sep.pt r1) R (nm k) g](ht:TI cs m u lf)(hr:4* (u+lf+1)<=3* cs.length)(hk:m k=none)
 (h:∀b' c' xg NR,TI xg (xW m k (some v)) (u+1) NR->T W (Sep.pt t [.l b' xg.length c',.i ((u+1:Nat):Int),.i (NR:Int)]::own b' xg.length c' 4 (xg.flatMap oz)::R) (K (.b true))):
 T W (Sep.pt t [.l b cs.length c,.i (u:Int),.i (lf:Int)]::own b cs.length c 4 (cs.flatMap oz)::R) (eu.j1 K r1 (ah t) v):=by
 unfold eu.j1;apply ws;intros;refine Kx ht (λi2 z hz hkk he=>?_) (λp SY=>?_)
 ·have:=ht.is i2 z hz hkk;rw[he,hk] at this;cases this
 obtain⟨z,d,hz,hzk,_⟩:=SY.place;have Cs:=(ao.1 hz).1;have hN:=ht.pow.le;apply ws;intros;refine dL ⟨by omega,by omega⟩ λr hr=>?_;subst hr;rw[ak];simp only[ig,aC];refine CX (r:=r) (j:=3) tq hz rfl ?_;have OY:=ht.put (v:=v) SY hz hr;have ada:∀NR:Nat,NR=(if z.kind=2 then lf-1 else lf)->T W (Sep.pt t [.l (ah r) cs.length c,.i (u:Int),.i (NR:Int)]::own (ah r) cs.length c 4 (cs.flatMap oz)::R) (eu.j2 K (ah t) r1 (p:Int) v):=by
  intro NR hlf;unfold eu.j2;apply ws;intros;refine tN ⟨by omega,by omega⟩ ?_;rw[ak];refine dO rfl ?_;show T W _ (kj _ (oz ⟨k,v,1⟩) _);refine rE tq Cs (At _) ?_;apply ws;intros;have MD:=ht.room;rw[aW (by omega),show(u:Int)+1=((u+1:Nat):Int) by omega];have:=h (ah r) c (cs.set p ⟨k,v,1⟩) NR (by rw[hlf];exact OY);rw[jm] at this;exact this
 have MD:=ht.room;apply ws;intros;apply dj<;>intro g2
 ·have k2:z.kind=2:=by simpa using g2
  have h1:1<=lf:=by
   rw[<-ht.left];exact List.countP_pos_iff.2 ⟨z,bD hz,by simpa using k2⟩
  apply ws;intros;rw[aW (by omega),show(lf:Int) -1=((lf-1:Nat):Int) by omega];exact ada (lf-1) (by rw[ai k2])
 ·have k2: ¬z.kind=2:=by simpa using g2
  exact ada lf (by rw[ag k2])
def RK{k:Nat}{v:Int}[i:Lc (pF t) L x f](hu:x.2<=1000)(hk:x.1 k=none)(h:T W (f (xW x.1 k (some v),x.2+1)) (K (.b true))):T W L (eu (ah t) (nm k) v K):=by
 refine Ui (t:=t) λb c cs lf R ht hc=>?_;unfold eu;refine uH λr1=>fW rfl ?_;refine T.afc ?_;have hN:=ht.pow.le;have MD:=ht.room;have fin:∀b' c' xg NR,TI xg (xW x.1 k (some v)) (x.2+1) NR->T W (Sep.pt t [.l b' xg.length c',.i ((x.2+1:Nat):Int),.i (NR:Int)]::own b' xg.length c' 4 (xg.flatMap oz)::Sep.pt r1 (nm k)::R) (K (.b true)):=
  λb' c' xg NR MA w hs=>hc _ _ _ _ _ _ _ MA h w (hs.focus (k:=2) rfl).drop
 have hw1:aa.wrap ((x.2:Int)+lf)=(x.2:Int)+lf:=aW (by omega);have hw2:aa.wrap ((x.2:Int)+lf+1)=(x.2:Int)+lf+1:=aW (by omega);have hw3:aa.wrap (4* ((x.2:Int)+lf+1))=4* ((x.2:Int)+lf+1):=aW (by omega);have hw4:aa.wrap (3* (cs.length:Int))=3* (cs.length:Int):=aW (by omega);apply ws;intros;rw[hw1,hw2,hw3,hw4];apply ga<;>intro g
 ·refine abW ht hu λb' c' xg MA NV=>?_;apply ws;intros;exact L8 (lf:=0) MA (by omega) hk fin
 ·have:=g;exact L8 ht (by omega) hk fin
def aaG(h:∀t,T W (pF t (λ_=>none,0)::L) (K (.p (ah t)))):T W L (xp K):=by
 unfold xp;refine JV ⟨by decide,by decide,by decide,by decide⟩ λr=>?_;rw[show((8:Int).toNat)=8 from rfl,rV (g:=oz) (z:=⟨0,0,0⟩) (zs:=[.u 0,.u 0,.i 0,.int .u8 0]) rfl];apply ws;intros;rename_i r1;refine λw hs=>h r1 w ?_;exact St.rh (ah r,8,bu 8 ⟨0,0,0⟩,0) (St.and_intro (TI.new ⟨3,by decide,by decide,rfl⟩) (St.join hs))
end
section
variable {W:World} {L:LH} {K:VK} {X:WK} {α:Type} {r o:Nat} {pre post:LV} {g:α->LV} {e:Nat} {l:List α} {f:List α->LH}
def iB{e:Nat}(h:T W (own none 0 0 e []::L) X):T W L X:=λw hs=>h w (hs.push (sm e))
def jS{b:OA}{n c bytes r1:Nat}{zero:LV}{x:α}{ys:LV}{f:HP->LH}{f1:LV->LH}{K:OA->Nat->Nat->WK}[i:u9 b n c L e (l.flatMap g) f][j:Lc (Sep.pt r1) L ys f1](hy:ys=g x)(hg:(g x).length=e)(hz:zero.length=e)
 (hb:(n+1)* bytes<=140737488355328)(hm:n+1<=9223372036854775807)(h1:∀v∈g x,v.oneCell'=true)(h:∀b' c',T W (f (own b' (n+1) c' e ((l++[x]).flatMap g))) (K b' (n+1) c')):T W L (iz e bytes zero b n c (ah r1) 1 K):=by
 refine Uu (ys:=ys) (by rw[hy];exact hg) hz hb (by rw[hy];exact h1) (λb' c'=>?_) hm;have:=h b' c';rw[gA] at this;simpa [hy] using this
def Gp{b:OA}{n c e i:Nat}{xs:LV}(hi:i<=n):∀h,own b n c e xs h->own b i c e (xs.take (i* e)) h:=λh=>by
 rintro⟨hl,h0|⟨r,sp,hb,vX,CO,hp⟩⟩
 ·obtain⟨rfl,rfl,rfl⟩:=h0;have:i=0:=by omega
  subst this;exact⟨by simp,.inl ⟨rfl,rfl,rfl⟩⟩
 ·have hie:i* e<=n* e:=iI e hi;refine⟨by rw[aD];omega,.inr ⟨r,xs.drop (i* e)++sp,hb,by omega,?_,?_⟩⟩
  ·rw[aw,aT,CO,hl,Nat.sub_mul,Nat.sub_mul];have:n* e<=c* e:=iI e vX;omega
  ·rw[<-aI,dy];exact hp
def Jv{g:α->LV}(hg:∀x,(g x).length=e):∀(l:List α)(i:Nat),(l.flatMap g).take (i* e)=(l.take i).flatMap g
 |[],i=>by simp
 |x::l,0=>by simp
 |x::l,i+1=>by
  rw[iY,List.take_succ_cons,iY,<-Jv hg l i,show(i+1)* e=(g x).length+i* e by rw[hg,mA];omega,List.take_length_add_append]
def BW{b:OA}{n c i:Nat}{f:HP->LH}[j:u9 b n c L e (l.flatMap g) f](hg:∀x,(g x).length=e)(hi:i<=n)(h:T W (f (own b i c e ((l.take i).flatMap g))) X):T W L X:=λw hs=>by
 obtain⟨k,hk,e1⟩:=j.at_;refine h w ?_;rw[e1,<-Jv hg];exact St.rZ ((hs.focus hk).mono (Gp hi)) hk
def A4{b:OA}{n c i:Nat}{K:OA->Nat->Nat->WK}(hi:i<=c)(h:T W L (K b i c)):T W L (sO b n c e none (some (i:Int)) K):=by
 unfold sO;refine dO ⟨by omega,by omega⟩ ?_;dsimp only;rw[Z9,ak];exact h
def rv{b:OA}{n c:Nat}{f:HP->LH}{xs:LV}[j:u9 b n c L e xs f](h:n<=c->xs.length=n* e->T W L X):T W L X:=λw hs=>by
 obtain⟨k,hk,_⟩:=j.at_;obtain⟨hl,h0|⟨r,sp,hb,vX,_⟩⟩:=hs.oN hk
 ·exact h (by omega) hl w hs
 ·exact h vX hl w hs
end
abbrev oC:=Int×Int
def pI(p:oC):LV:=[.i p.1,.i p.2]
def oM(p:oC):(pI p).length=2:=rfl
instance{p:oC}:Ln (pI p) 2:=⟨rfl⟩
instance{p:oC}:Gt (pI p) 1 (.i p.2):=⟨rfl⟩
def uW(p:oC):∀v∈pI p,v.oneCell'=true:=λv h=>by simp[pI] at h;rcases h with rfl|rfl<;>rfl
instance{x1 x2:Value}{p:oC}:Wr [x1,x2] 0 (pI p) (pI p):=⟨rfl,aH _,uW p⟩
def pos(s:Int):List oC->Nat
 |[]=>0
 |p::l=>if p.1<s then pos s l+1 else 0
def Kg(s:Int):∀l:List oC,pos s l<=l.length
 |[]=>aH _
 |p::l=>by unfold pos;split<;>simp;exact Kg s l
def tv(l:List oC):Prop:=l.Pairwise λa b=>a.1<b.1
def OJ(s:Int):∀(l:List oC)(i:Nat),i<=l.length->(∀(j:Nat)(p:oC),j<i->l[j]?=some p->p.1<s)->(∀(j:Nat)(p:oC),i<=j->l[j]?=some p->s<=p.1)->i=pos s l
 |[],i,hi,_,_=>by simp at hi;subst hi;rfl
 |q::l,0,hi,h1,h2=>by
  unfold pos;rw[ag];have:=h2 0 q (aH _) rfl;omega
 |q::l,i+1,hi,h1,h2=>by
  unfold pos;rw[ai (h1 0 q (by omega) rfl),<-OJ s l i (by simpa using hi) (λj p hj hp=>h1 (j+1) p (by omega) (by simpa using hp)) (λj p hj hp=>h2 (j+1) p (by omega) (by simpa using hp))]
def half{i j:Nat}(h:i+j<4611686018427387904):aa.wrap (shr .u64 (IntKind.u64.wrap (aa.wrap ((i:Int)+j))) 1)=(((i+j)/2:Nat):Int):=by
 have e0:aa.wrap ((i:Int)+j)=((i+j:Nat):Int):=by rw[aW (by omega)];omega
 rw[e0,sL (by omega)];unfold shr;have e:min (1:Int).toNat IntKind.u64.bits=1:=rfl;rw[e,HH _ (by decide)];rw[aW (by omega)];omega
def CH(s:Int)(l:List oC)(i:Nat):Bool:=match l[i]? with|some p=>decide (s<=p.1)|none=>true
section
variable {W:World} {L:LH} {K:VK} {X:WK} {r o:Nat} {l:List oC}
def WT{n:Nat}{v:Value}(P:Nat->Bool)(hn:n<1099511627776)(aal:∀i j,i<=j->P i=true->P j=true)
 (adT:∀(i:Nat)(K:VK),i<n->T W L (K (.b (P i)))->T W L (yZ [(N.fX,fX.u)] v [.i (i:Int)] K))
 (h:∀i:Nat,i<=n->(∀j,j<i->P j=false)->(∀j,i<=j->j<n->P j=true)->T W L (K (.i (i:Int)))):T W L (we (n:Int) v K):=by
 unfold we;intro w hs;refine⟨λvs w=>∃i j:Nat,i<=j/\j<=n/\(∀k,k<i->P k=false)/\(∀k,j<=k->k<n->P k=true)/\vs=[.i 0,.i (i:Int),.i (j:Int)]/\St W w L,
  λvs _=>match vs with|[_,.int _ i,.int _ j]=>j.toNat-i.toNat|_=>0,⟨0,n,aE _,aH _,(λk hk=>by omega),(λk h1 h2=>by omega),rfl,hs⟩,?_⟩
 rintro n2 n3 n4 w2 ⟨i,j,NX,hjn,hi,hj,e,hs⟩;cases e
 refine T.at ?_ hs;rw[half (by omega)];apply ga<;>intro g
 ·have bX:i<j:=by omega
  refine dO (by decide) (adT _ _ (by omega) ?_);refine oU (dj (λg2=>?_) (λg2=>?_))
  ·have p0:P ((i+j)/2)=false:=by simpa using g2
   have e1:aa.wrap ((((i+j)/2:Nat):Int)+1)=(((i+j)/2+1:Nat):Int):=by rw[aW (by omega)];omega
   rw[e1];refine λw3 h3=>⟨⟨(i+j)/2+1,j,by omega,hjn,λk hk=>?_,hj,rfl,h3⟩,by show(j:Int).toNat-(((i+j)/2+1:Nat):Int).toNat<(j:Int).toNat-(i:Int).toNat;omega⟩;cases hp:P k with
   |false=>rfl
   |true=>rw[aal k ((i+j)/2) (by omega) hp] at p0;cases p0
  ·have p1:P ((i+j)/2)=true:=by simpa using g2
   refine λw3 h3=>⟨⟨i,(i+j)/2,by omega,by omega,hi,λk hk _=>aal _ k hk p1,rfl,h3⟩,by show(((i+j)/2:Nat):Int).toNat-(i:Int).toNat<(j:Int).toNat-(i:Int).toNat;omega⟩
 ·have:i=j:=by omega
  subst this;exact h i hjn hi hj
def EZ{s:Int}{cs:LV}{b:OA}{c:Nat}{f:LV->LH}{g:HP->LH}(hv:cs[o]?=some (.l b l.length c))(hr:tv l)(hl:l.length<1099511627776)[i:Lc (Sep.pt r) L cs f][j:u9 b l.length c L 2 (l.flatMap pI) g](h:T W L (K (.i (pos s l:Int)))):T W L (mo (some ⟨r,o,none⟩) s K):=by
 unfold mo
 repeat' first|apply ws;intros|apply wb|with_reducible refine nR hv ?_|fail
 rename_i r1 r2;refine WT (CH s l) hl ?_ ?_ ?_
 ·intro i j NX hi;unfold CH at *;by_cases hj:j<l.length
  ·have vU:i<l.length:=by omega
   rw[aj vU] at hi;rw[aj hj];simp only[decide_eq_true_eq] at *;by_cases e:i=j
   ·subst e;exact hi
   ·have:=qx.1 hr i j vU hj (by omega);omega
  ·rw[qh (by omega)]
 ·intro i K hi hK;show T W _ (fX (i:Int) (ad r1 0) (ad r2 0) K);unfold fX
  repeat' first|apply ws;intros|apply wb|with_reducible refine nR hv ?_|fail
  refine dL ⟨by omega,by omega⟩ λrb hb=>?_;subst hb;rw[ak];refine FT oM (aj hi) rfl ?_;apply ws;intros;refine T.fin (T.dp hK) ?_;unfold CH;rw[aj hi]
 ·intro i hi h1 h2;apply ws;intros;have e:i=pos s l:=OJ s l i hi (λj p hj hp=>by
   have:=h1 j hj
   unfold CH at this
   rw[hp] at this
   simpa using this) (λj p hj hp=>by
   have:=h2 j hj (ao.1 hp).1
   unfold CH at this
   rw[hp] at this
   simpa using this)
  subst e;exact T.drop (T.drop h)
def QQ{s:Int}:∀{l:List oC},(∀p∈l,p.1<s)->pos s l=l.length
 |[],_=>rfl
 |p::l,h=>by unfold pos;rw[ai (h p (by simp)),QQ λq hq=>h q (by simp[hq])];rfl
def JU{r o:Nat}{cs:LV}{v:Value}{u:Value}{f:LV->LH}[i:Lc (Sep.pt r) L cs f](hv:cs[o]?=some u)(h1:v.oneCell'=true)(h:T W (f (cs.set o v)) X):T W L (st ⟨r,o,none⟩ v X):=DO (ao.1 hv).1 h1 h
def tY{cs:LV}{o:Nat}{u v:Value}(hv:cs[o]?=some u):(cs.set o v)[o]?=some v:=by rw[da,ai rfl,ai (ao.1 hv).1]
def zt{b:OA}{n c i e:Nat}{K:OA->Nat->Nat->WK}(hi:i<=n)(h:T W L (K (zw b c i e) (n-i) (c-i))):T W L (sO b n c e (some (i:Int)) none K):=by
 unfold sO;refine dO ⟨by omega,by omega⟩ ?_;rw[ak];exact h
def RH(w:World)(e:Nat)(b:OA):Src w 0 e b []:=⟨by simp,λa ha j v hj=>by simp at hj⟩
def ac1{e n m:Nat}{b b':OA}{K:Nat->WK}(hm:min m n=0)(h:T W L (K 0)):T W L (Wf e b n b' m K):=λw hs=>by
 unfold Wf;rw[hm];exact⟨[],RH w e b',λ_=>rfl,λ_=>h w hs,λa _=>⟨⟨by simp,λj hj=>by simp at hj⟩,h w hs⟩⟩
def aa7{b b':OA}{n c e bytes:Nat}{zero:LV}{K:OA->Nat->Nat->WK}{xs:LV}{f:HP->LH}[i:u9 b n c L e xs f](h:T W L (K b n c)):T W L (iz e bytes zero b n c b' 0 K):=
 rv (b:=b) λvX _ w hs=>⟨[],RH w e b',λ_=>rfl,λ_=>⟨λa _=>⟨⟨by simp,λj hj=>by simp at hj⟩,h w hs⟩,λ_=>h w hs⟩,λbX=>by omega⟩
section
variable {R:LH} {cs:LV} {b:OA} {c:Nat}
def abq{s a:Int}(hv:cs[o]?=some (.l b l.length c))(hr:tv l)(hl:l.length<1099511627)(hs:∀p∈l,p.1<s)
 (h:∀b' c',T W (Sep.pt r (cs.set o (.l b' (l.length+1) c'))::own b' (l.length+1) c' 2 ((l++[(s,a)]).flatMap pI)::R) (K (.b true))):
 T W (Sep.pt r cs::own b l.length c 2 (l.flatMap pI)::R) (jG (some ⟨r,o,none⟩) s a K):=by
 unfold jG;refine zv ?_;refine EZ hv hr (by omega) ?_;rw[QQ hs]
 repeat' first|apply ws;intros|apply wb|with_reducible refine nR hv ?_|fail
 refine fW (by simp) ?_;unfold jG.j1
 repeat' first|apply ws;intros|apply wb|with_reducible refine nR hv ?_|fail
 refine jS (x:=((0:Int),(0:Int))) rfl rfl rfl (by omega) (by omega) (uW _) λb' c'=>?_
 repeat' first|apply ws;intros|apply wb|with_reducible first|refine JU hv rfl ?_|refine nR (tY hv) ?_|fail
 have e1:aa.wrap ((l.length:Int)+1)=((l.length+1:Nat):Int):=by rw[aW (by omega)];omega
 rw[e1];refine zt (aH _) ?_
 repeat' first|apply ws;intros|apply wb|with_reducible refine nR (tY hv) ?_|fail
 refine zt (by omega) ?_;refine ac1 (by omega) ?_
 repeat' first|apply ws;intros|apply wb|with_reducible first|refine zu (tY hv) ?_|refine nR (tY hv) ?_|fail
 refine rv (b:=b') λvX hlen=>?_;refine dL ⟨by omega,by omega⟩ λrb hb=>?_;subst hb;rw[ak];refine dO rfl ?_;show T W _ (kj _ (pI (s,a)) _);refine rE oM (by simp) (uW _) ?_;have:=h (ah rb) c';rw[List.set_append_right _ _ (aH _)];simpa using T.drop this
def Yi{s a:Int}{l0:List oC}(hv:cs[o]?=some (.l b l.length c))(hr:tv l)(hl:l.length<1099511627)(hs:l=l0++[(s,a)])
 (h:∀b' c',T W (Sep.pt r (cs.set o (.l b' l0.length c'))::own b' l0.length c' 2 (l0.flatMap pI)::R) (K (.b true))):
 T W (Sep.pt r cs::own b l.length c 2 (l.flatMap pI)::R) (jL (some ⟨r,o,none⟩) s K):=by
 have hlen:l.length=l0.length+1:=by rw[hs];simp
 have hp:pos s l=l0.length:=by
  refine(OJ s l l0.length (by omega) (λj p hj hpj=>?_) (λj p hj hpj=>?_)).symm
  ·have bX:=(ao.1 hpj).1;have:=qx.1 hr j l0.length bX (by omega) hj;rw[aj bX] at hpj;rw[aY.inj hpj] at this;have e:l[l0.length]=(s,a):=by simp[hs]
   rw[e] at this;exact this
  ·have bX:=(ao.1 hpj).1;have:j=l0.length:=by omega
   subst this;rw[hs] at hpj;simp at hpj;rw[<-hpj];exact tw _
 have hg:l[l0.length]?=some (s,a):=by rw[hs];simp
 unfold jL;refine zv ?_;refine EZ hv hr (by omega) ?_;rw[hp]
 repeat' first|apply ws;intros|apply wb|with_reducible refine nR hv ?_|fail
 refine fW (by simp;omega) ?_
 repeat' first|apply ws;intros|apply wb|with_reducible refine nR hv ?_|fail
 refine dL ⟨by omega,by omega⟩ λrb hb=>?_;subst hb;rw[ak];refine FT oM hg rfl ?_;apply ws;intros;unfold jL.j1;refine fW (by simp) ?_
 repeat' first|apply ws;intros|apply wb|with_reducible refine nR hv ?_|fail
 refine rv (b:=ah rb) λvX AT=>?_;refine A4 (by omega) ?_
 repeat' first|apply ws;intros|apply wb|with_reducible refine nR hv ?_|fail
 have e1:aa.wrap ((l0.length:Int)+1)=((l0.length+1:Nat):Int):=by rw[aW (by omega)];omega
 rw[e1];refine zt (by omega) ?_;rw[hlen] at hv;rw[hlen,mg];have et:l.take l0.length=l0:=by rw[hs];simp
 refine BW (b:=ah rb) (i:=l0.length) oM (by omega) ?_;rw[et];refine aa7 (b:=ah rb) ?_
 repeat' first|apply ws;intros|apply wb|with_reducible first|refine zu hv ?_|refine JU hv rfl ?_|fail
 exact h _ _
def vV(toX:Int)(l:List oC):Nat:=if toX=0 then l.length else match l[pos toX l]? with|some p=>if p.1=toX then pos toX l+1 else pos toX l|none=>pos toX l
def XJ(toX:Int)(l:List oC):vV toX l<=l.length:=by
 unfold vV;have:=Kg toX l;split
 ·exact aH _
 ·split
  ·rename_i p hp;have:=(ao.1 hp).1;split<;>omega
  ·omega
def qR(from_ toX:Int)(l:List oC):List oC:=(l.drop (pos from_ l)).take (vV toX l-pos from_ l)
def X0{m out:List oC}{i:Nat}(hl:m.length=out.length)(hm:∀j,j<out.length->m[j]?=if j<i\/out.length-1-j<i then out[out.length-1-j]? else out[j]?)(hi:out.length<=2* i+1):m=out.reverse:=by
 apply qN;intro j;by_cases hj:j<out.length
 ·rw[hm j hj,List.getElem?_reverse hj];by_cases h:j<i\/out.length-1-j<i
  ·rw[ai h]
  ·rw[ag h];congr 1;omega
 ·rw[qh (by omega),qh (by simpa using hj)]
def U6{from_ toX:Int}{Ar:Bool}{f:LV->LH}{g:HP->LH}(hv:cs[o]?=some (.l b l.length c))(hr:tv l)(hl:l.length<100000)[i:Lc (Sep.pt r) L cs f][j:u9 b l.length c L 2 (l.flatMap pI) g]
 (h:∀b' c' out,out=(if Ar then(qR from_ toX l).reverse else qR from_ toX l)->T W (own b' out.length c' 2 (out.flatMap pI)::L) (K (.l b' out.length c'))):T W L (gG (some ⟨r,o,none⟩) from_ toX Ar K):=by
 unfold gG;refine zv ?_
 repeat' first|apply ws;intros|apply wb|with_reducible refine nR hv ?_|fail
 refine EZ hv hr (by omega) ?_
 repeat' first|apply ws;intros|apply wb|with_reducible refine zu hv ?_|fail
 have j1:T W L (gG.j1 K (pos from_ l:Int) (some ⟨r,o,none⟩) Ar (vV toX l:Int)):=by
  have hul:=XJ toX l;unfold gG.j1;refine iB (e:=2) ?_;intro w hs;refine⟨λvs w=>∃(k:Nat)(out:List oC)(b':OA)(c':Nat),pos from_ l<=k/\(k<=vV toX l\/k=pos from_ l)/\out=(l.drop (pos from_ l)).take (k-pos from_ l)/\out.length=k-pos from_ l/\
   vs=[.l none 0 0,.i (k:Int),.i (vV toX l:Int),.l b' out.length c']/\St W w (own b' out.length c' 2 (out.flatMap pI)::L),
   λvs _=>match vs with|[_,.int _ k,.int _ n,_]=>n.toNat-k.toNat|_=>0,⟨pos from_ l,[],none,0,aH _,.inr rfl,by simp,by simp,rfl,hs⟩,?_⟩
  rintro jT jd ku n5 n6 b' pn c' w2 ⟨k,out,b0,c0,TN,q8,zf,hol,e,hs⟩;cases e
  refine T.at ?_ hs;have TL:=Kg from_ l;apply ga<;>intro g1
  ·have bX:k<vV toX l:=by omega
   have e5:=nK k;have hg:=aj (show k<l.length by omega);generalize l[k]=p at hg
   repeat' first|apply ws;intros|apply wb|with_reducible refine nR hv ?_|fail
   refine dL ⟨by omega,by omega⟩ λrb hb=>?_;subst hb;rw[ak,e5];refine gT oM hg ?_;apply ws;intros;refine jS (x:=p) rfl rfl rfl (by omega) (by omega) (uW _) λb2 c2=>?_;refine T.drop λw3 h3=>⟨⟨k+1,out++[p],b2,c2,by omega,.inl bX,?_,by simp;omega,by simp,by simpa using h3⟩,by show(vV toX l:Int).toNat-((k+1:Nat):Int).toNat<(vV toX l:Int).toNat-(k:Int).toNat;omega⟩;rw[show k+1-pos from_ l=(k-pos from_ l)+1 by omega,bg,<-zf,sJ,show pos from_ l+(k-pos from_ l)=k by omega,hg]
   rfl
  ·have jk:vV toX l<=k:=by omega
   have adw:out=qR from_ toX l:=by
    rw[zf];unfold qR;rcases q8 with h2|h2
    ·rw[show k=vV toX l by omega]
    ·rw[h2,mg,show vV toX l-pos from_ l=0 by omega]
   apply dj<;>intro g2
   ·subst g2;intro w2 hs;refine⟨λvs w=>∃(i:Nat)(m:List oC),i<=out.length/\m.length=out.length/\(∀j,j<out.length->m[j]?=if j<i\/out.length-1-j<i then out[out.length-1-j]? else out[j]?)/\
     vs=[.l none 0 0,.l b' out.length c',.i (i:Int),.i ((out.length:Int) -1-i)]/\St W w (own b' out.length c' 2 (m.flatMap pI)::L),
     λvs _=>match vs with|[_,_,.int _ k,_]=>out.length-k.toNat|_=>0,⟨0,out,aE _,rfl,λj hj=>by simp,by rw[aW (by omega)];simp,hs⟩,?_⟩
    rintro B0 BF BG IH EV Ld n7 n8 w5 ⟨i,m,hi,Kq,hm,e,hs⟩;cases e
    refine T.at ?_ hs;apply ga<;>intro g3
    ·have bX:(i:Int)<(out.length:Int) -1-i:=g3;obtain⟨k2,afy⟩:∃k2:Nat,k2=out.length-1-i:=⟨_,rfl⟩;have ek:(out.length:Int) -1-i=(k2:Int):=by omega
     have e5:=nK i;have e6:aa.wrap ((k2:Int) -1)=(out.length:Int) -1-((i+1:Nat):Int):=by rw[aW (by omega)];omega
     have g4:=aj (show i<m.length by omega);have g5:=aj (show k2<m.length by omega);have g6:=hm i (by omega);have g7:=hm k2 (by omega);rw[ag (by omega)] at g6;rw[ag (by omega)] at g7;generalize m[i]=x at g4;generalize m[k2]=y at g5;rw[ek,e5,e6];apply ws;intros;refine dL ⟨by omega,by omega⟩ λrb hb=>?_;subst hb;rw[ak];refine gT oM g5 ?_;refine tN ⟨by omega,by omega⟩ ?_;rw[ak];refine gT oM g4 ?_;refine tN ⟨by omega,by omega⟩ ?_;rw[ak];refine dO rfl (rE oM (by omega) (uW _) ?_);refine tN ⟨by omega,by omega⟩ ?_;rw[ak];refine dO rfl (rE oM (by simp;omega) (uW _) ?_);refine λw3 h3=>⟨⟨i+1,(m.set i y).set k2 x,by omega,by simp[Kq],λj hj=>?_,rfl,h3⟩,by show out.length-((i+1:Nat):Int).toNat<out.length-(i:Int).toNat;omega⟩;rw[da,da];by_cases q1:k2=j
     ·subst q1;rw[ai rfl,ai (by simp;omega),ai (by omega),show out.length-1-k2=i by omega,<-g6,g4]
     ·rw[ag q1];by_cases q2:i=j
      ·subst q2;rw[ai rfl,ai (by omega),ai (by omega),<-afy,<-g7,g5]
      ·rw[ag q2,hm j hj];by_cases q3:j<i\/out.length-1-j<i
       ·rw[ai q3,ai (by omega)]
       ·rw[ag q3,ag (by omega)]
    ·have aiO: ¬(i:Int)<(out.length:Int) -1-i:=g3;have:=X0 Kq hm (by omega);subst this;have:=h b' c' out.reverse (by rw[ai rfl,adw]);rw[jC] at this;exact this
   ·subst g2;exact h b' c' out (by rw[ag (by decide),adw])
 apply dj<;>intro g1
 ·have Xl:toX≠0:=by simpa using g1
  refine EZ hv hr (by omega) ?_;have hpt:=Kg toX l
  repeat' first|apply ws;intros|apply wb|with_reducible refine nR hv ?_|fail
  unfold vV at j1;rw[ag Xl] at j1;apply ga<;>intro g2
  ·have bX:pos toX l<l.length:=by omega
   have hg:=aj bX;generalize l[pos toX l]=p at hg;have e5:aa.wrap ((pos toX l:Int)+1)=((pos toX l+1:Nat):Int):=by rw[aW (by omega)];omega
   rw[hg] at j1;dsimp only at j1
   repeat' first|apply ws;intros|apply wb|with_reducible refine nR hv ?_|fail
   rw[e5];refine dL ⟨by omega,by omega⟩ λrb hb=>?_;subst hb;rw[ak];refine FT oM hg rfl ?_;apply ws;intros;apply dj<;>intro g3
   ·rw[ai (by simpa using g3)] at j1;exact j1
   ·rw[ag (by simpa using g3)] at j1;exact j1
  ·have jk:l.length<=pos toX l:=by omega
   rw[qh jk] at j1;exact j1
 ·have Xl:toX=0:=by simpa using g1
  unfold vV at j1;rw[ai Xl] at j1;exact j1
end
end
structure Item where
 due:Int
 ay:Int
 id:Nat
def gW(x:Item):LV:=[.i x.due,.i x.ay]++nm x.id
def jf(x:Item):(gW x).length=4:=rfl
instance{x:Item}:Ln (gW x) 4:=⟨rfl⟩
instance{x:Item}:Gt (gW x) 0 (.i x.due):=⟨rfl⟩
instance{x:Item}:Gt (gW x) 1 (.i x.ay):=⟨rfl⟩
def qH(x:Item):∀v∈gW x,v.oneCell'=true:=pv (λv h=>by simp at h;rcases h with rfl|rfl<;>rfl) (mI _)
instance{x1 x2 x3 x4:Value}{p:Item}:Wr [x1,x2,x3,x4] 0 (gW p) (gW p):=⟨rfl,aH _,qH p⟩
instance{p:Item}:Sub (gW p) 0 4 (gW p):=⟨rfl,λj v h=>by rw[aC];exact h⟩
def bf(a b:Item):Prop:=a.due<b.due\/a.due=b.due/\a.ay<b.ay
instance(a b:Item):Decidable (bf a b):=by unfold bf;infer_instance
def Rz{a b:Item}(h:bf a b): ¬bf b a:=by unfold bf at *;omega
def Np{a b c:Item}(h:bf a b)(g:bf b c):bf a c:=by unfold bf at *;omega
def Gz{a b c:Item}(h: ¬bf a b)(g: ¬bf b c): ¬bf a c:=by unfold bf at *;omega
def Vb{a b c:Item}(h: ¬bf a c)(g:bf b c): ¬bf a b:=λhh=>h (Np hh g)
def PH(a:Item): ¬bf a a:=by unfold bf;omega
def par(j:Nat):Nat:=(j-1)/2
def NB(h:List Item)(i j:Nat):Prop:=∀x y,h[i]?=some x->h[j]?=some y-> ¬bf x y
def vY(h:List Item):Prop:=∀j,0<j->NB h j (par j)
def HU(h:List Item)(i:Nat):Prop:=(∀j,0<j->j≠i->NB h j (par j))/\(∀j,0<j->par j=i->0<i->NB h j (par i))
def HD(h:List Item)(i:Nat):Prop:=(∀j,0<j->par j≠i->NB h j (par j))/\(∀j,0<j->par j=i->0<i->NB h j (par i))
def Kids(h:List Item)(i:Nat):Prop:=∀j,0<j->par j=i->NB h j i
def vY.hu{h:List Item}(hh:vY h)(i:Nat):HU h i:=by
 refine⟨λj h0 _=>hh j h0,λj h0 hp hi x y hx hy=>?_⟩;have bX:j<h.length:=(ao.1 hx).1;have SX:i<h.length:=by unfold par at hp;omega
 have a1:=hh j h0 x _ hx (by rw[hp];exact aj SX);exact Gz a1 (hh i hi _ y (aj SX) hy)
def HU.heap{h:List Item}{i:Nat}(hu:HU h i)(hx:i=0\/NB h i (par i)):vY h:=λj h0=>by
 by_cases e:j=i
 ·subst e;rcases hx with hx|hx
  ·omega
  ·exact hx
 ·exact hu.1 j h0 e
def HD.heap{h:List Item}{i:Nat}(hd:HD h i)(hk:Kids h i):vY h:=λj h0=>by
 by_cases e:par j=i
 ·rw[e];exact hk j h0 e
 ·exact hd.1 j h0 e
def XR(h:List Item)(i k:Nat)(x y:Item):List Item:=(h.set i y).set k x
def Qo(h:List Item)(i k:Nat)(x y:Item):(XR h i k x y).length=h.length:=by simp[XR]
section
variable {h:List Item} {i k:Nat} {x y:Item}
def Qp(hx:h[i]?=some x)(hy:h[k]?=some y)(Vz:i≠k)(j:Nat):(XR h i k x y)[j]?=if j=i then some y else if j=k then some x else h[j]?:=by
 have l1:=(ao.1 hx).1;have l2:=(ao.1 hy).1;unfold XR;rw[da,da];by_cases e1:k=j
 ·subst e1;rw[ai rfl,ai (by simpa using l2),ag (by omega),ai rfl]
 ·rw[ag e1];by_cases e2:i=j
  ·subst e2;rw[ai rfl,ai l1,ai rfl]
  ·rw[ag e2,ag (by omega),ag (by omega)]
def Ad:∀{h:List Item} {i:Nat} {x y:Item},h[i]?=some x->(x::h.set i y).Perm (y::h)
 |[],i,x,y,hx=>by simp at hx
 |a::h,0,x,y,hx=>by simp at hx;subst hx;exact bZ.swap _ _ _
 |a::h,i+1,x,y,hx=>by
  have ih:=Ad (y:=y) (show h[i]?=some x by simpa using hx);rw[nI];exact(bZ.swap _ _ _).trans ((ih.cons a).trans (bZ.swap _ _ _))
def LG(hx:h[i]?=some x)(hy:h[k]?=some y)(Vz:i≠k):(XR h i k x y).Perm h:=by
 have h1:=Ad (y:=y) hx;have hy2:(h.set i y)[k]?=some y:=by rw[da,ag Vz];exact hy
 have h2:=Ad (y:=x) hy2;exact(List.perm_cons y).1 (h2.trans h1)
def HU.step(hu:HU h i)(hi:0<i)(hx:h[i]?=some x)(hy:h[par i]?=some y)(hb:bf x y):HU (XR h i (par i) x y) (par i):=by
 have Vz:i≠par i:=by unfold par;omega
 have g:=Qp hx hy Vz
 constructor
 ·intro j h0 hj a b ha ry;rw[g] at ha ry;by_cases e1:j=i
  ·subst e1;rw[ai rfl] at ha;cases ha
   rw[ag (λh=>Vz h.symm),ai rfl] at ry;cases ry
   exact Rz hb
  ·rw[ag e1,ag hj] at ha;by_cases e2:par j=i
   ·rw[ai e2] at ry;cases ry
    exact hu.2 j h0 e2 hi a y ha hy
   ·rw[ag e2] at ry;by_cases e3:par j=par i
    ·rw[ai e3] at ry;cases ry
     exact Vb (hu.1 j h0 e1 a y ha (by rw[e3];exact hy)) hb
    ·rw[ag e3] at ry;exact hu.1 j h0 e1 a b ha ry
 ·intro j h0 hp NS a b ha ry;have n1:par (par i)≠i:=by unfold par;omega
  have n2:par (par i)≠par i:=by unfold par at *;omega
  rw[g] at ha ry;rw[ag n1,ag n2] at ry;have top:=hu.1 (par i) NS (λh=>Vz h.symm) y b hy ry;by_cases e1:j=i
  ·subst e1;rw[ai rfl] at ha;cases ha
   exact top
  ·have n3:j≠par i:=by intro h;rw[h] at hp;exact n2 hp
   rw[ag e1,ag n3] at ha;exact Gz (hu.1 j h0 e1 a y ha (by rw[hp];exact hy)) top
def HD.step(hd:HD h i)(hk:par k=i)(h0k:0<k)(hx:h[i]?=some x)(hy:h[k]?=some y)(hb:bf y x)(AH:∀j,0<j->par j=i->NB h j k):HD (XR h i k x y) k:=by
 have Vz:i≠k:=by intro h;unfold par at hk;omega
 have g:=Qp hx hy Vz
 constructor
 ·intro j h0 hj a b ha ry;rw[g] at ha ry;by_cases e1:j=i
  ·subst e1;rw[ai rfl] at ha;cases ha
   have n1:par j≠j:=by unfold par;omega
   rw[ag n1,ag hj] at ry;exact hd.2 k h0k hk h0 y b hy ry
  ·rw[ag e1] at ha;by_cases e2:j=k
   ·subst e2;rw[ai rfl] at ha;cases ha
    rw[ai hk] at ry;cases ry
    exact Rz hb
   ·rw[ag e2] at ha;by_cases e3:par j=i
    ·rw[ai e3] at ry;cases ry
     exact AH j h0 e3 a y ha hy
    ·rw[ag e3,ag hj] at ry;exact hd.1 j h0 e3 a b ha ry
 ·intro j h0 hp hk0 a b ha ry;rw[g] at ha ry;rw[ai hk] at ry;cases ry
  have n1:j≠i:=by intro h;unfold par at hp hk;omega
  have n2:j≠k:=by intro h;unfold par at hp;omega
  rw[ag n1,ag n2] at ha;exact hd.1 j h0 (by rw[hp];exact λh=>Vz h.symm) a y ha (by rw[hp];exact hy)
def vY.first(hh:vY h)(hx:h[0]?=some x):∀y∈h,¬bf y x:=by
 have key:∀(n j:Nat),j<=n->∀y:Item,h[j]?=some y-> ¬bf y x:=by
  intro n
  induction n with
  |zero=>intro j hj y hy;have:j=0:=by omega
         subst this;rw[hx] at hy;cases hy;exact PH x
  |succ n ih=>
   intro j hj y hy;by_cases h0:j=0
   ·subst h0;rw[hx] at hy;cases hy;exact PH x
   ·have bX:=(ao.1 hy).1;have hp:par j<h.length:=by unfold par;omega
    exact Gz (hh j (by omega) y _ hy (aj hp)) (ih (par j) (by unfold par;omega) _ (aj hp))
 intro y hy;obtain⟨j,hj⟩:=qM hy;exact key j j (aH _) y hj
def Qe{z:Item}{n:Nat}(hh:vY h)(hl:h.length=n+1)(hi:i<n)(hz:h[n]?=some z):
 (i=0\/NB ((h.set i z).take n) i (par i))->HD ((h.set i z).take n) i:=by
 have g:∀j,((h.set i z).take n)[j]?=if j<n then(if j=i then some z else h[j]?) else none:=by
  intro j;rw[sH];by_cases h1:j<n
  ·rw[ai h1,ai h1,da];by_cases h2:i=j
   ·subst h2;rw[ai rfl,ai (by omega),ai rfl]
   ·rw[ag h2,ag (by omega)]
  ·rw[ag h1,ag h1]
 have old:∀j a,j≠i->((h.set i z).take n)[j]?=some a->h[j]?=some a:=by
  intro j a hj ha;rw[g] at ha;rw[ag hj] at ha;split at ha
  ·exact ha
  ·cases ha
 intro ht;refine⟨λj h0 hp a b ha hb=>?_,λj h0 hp hi0 a b ha hb=>?_⟩
 ·by_cases e:j=i
  ·subst e;rcases ht with ht|ht
   ·omega
   ·exact ht a b ha hb
  ·exact hh j h0 a b (old j a e ha) (old _ b hp hb)
 ·have n1:j≠i:=by intro h;unfold par at hp;omega
  have n2:par i≠i:=by unfold par;omega
  exact(hh.hu i).2 j h0 hp hi0 a b (old j a n1 ha) (old _ b n2 hb)
def XM{z:Item}{n:Nat}(hh:vY h)(hl:h.length=n+1)(hi:i<n)(hz:h[n]?=some z)(h0i:0<i){y:Item}(hy:h[par i]?=some y)(hb:bf z y):
 HU ((h.set i z).take n) i/\Kids ((h.set i z).take n) i:=by
 have g:∀j,((h.set i z).take n)[j]?=if j<n then(if j=i then some z else h[j]?) else none:=by
  intro j;rw[sH];by_cases h1:j<n
  ·rw[ai h1,ai h1,da];by_cases h2:i=j
   ·subst h2;rw[ai rfl,ai (by omega),ai rfl]
   ·rw[ag h2,ag (by omega)]
  ·rw[ag h1,ag h1]
 have old:∀j a,j≠i->((h.set i z).take n)[j]?=some a->h[j]?=some a:=by
  intro j a hj ha;rw[g] at ha;rw[ag hj] at ha;split at ha
  ·exact ha
  ·cases ha
 have top:=(hh.hu i).2;have kids:Kids ((h.set i z).take n) i:=λj h0 hp a b ha ry=>by
  have n1:j≠i:=by intro h;unfold par at hp;omega
  rw[g,ai hi,ai rfl] at ry;cases ry
  exact Vb (top j h0 hp h0i a y (old j a n1 ha) hy) hb
 refine⟨⟨λj h0 hj a b ha ry=>?_,λj h0 hp hi0 a b ha ry=>?_⟩,kids⟩
 ·by_cases e:par j=i
  ·rw[e] at ry;exact kids j h0 e a b ha ry
  ·exact hh j h0 a b (old j a hj ha) (old _ b e ry)
 ·have n1:j≠i:=by intro h;unfold par at hp;omega
  have n2:par i≠i:=by unfold par;omega
  exact top j h0 hp hi0 a b (old j a n1 ha) (old _ b n2 ry)
end
section
variable {W:World} {R:LH} {L:LH} {K:VK} {X:WK} {r o:Nat} {cs:LV} {b:OA} {c:Nat} {h:List Item}
def Nq{x y:Item}(hk:T W L (K (.b (decide (bf x y))))):T W L (sj (gW x) (gW y) K):=by
 unfold sj
 repeat' first|apply ws;intros|apply wb|with_reducible refine dj (λh1=>?_) (λh1=>?_)|fail
 all_goals refine T.fin (T.dp hk) ?_
 ·have:=aR h1;rw[av (show bf x y from .inl this)]
 ·rename_i h2;have h2:=bn h2;have h3:x.due=y.due:=by simpa using h1
  congr 1
  rw[decide_eq_decide];unfold bf;omega
 ·rename_i h2;have h2:=bn h2;have h3: ¬x.due=y.due:=by simpa using h1
  rw[ar (show ¬bf x y by unfold bf;omega)]
def MQ{i:Nat}(h0:0<i)(h:i<1099511627776):aa.wrap ((aa.wrap ((i:Int) -1)).tdiv (2:Int))=((par i:Nat):Int):=by
 have e0:aa.wrap ((i:Int) -1)=((i-1:Nat):Int):=by rw[aW (by omega)];omega
 rw[e0];unfold par;have e1:((i-1:Nat):Int).tdiv 2=(((i-1)/2:Nat):Int):=by rw[Int.tdiv_eq_ediv_of_nonneg (by omega)];omega
 rw[e1,aW (by omega)]
def acQ{i:Nat}(hv:cs[o]?=some (.l b h.length c))(hl:h.length<100000)(hi:i<h.length)(hu:HU h i)
 (hk:∀h',vY h'->h'.Perm h->T W (Sep.pt r cs::own b h.length c 4 (h'.flatMap gW)::R) (K (.tuple ⟨[]⟩))):
 T W (Sep.pt r cs::own b h.length c 4 (h.flatMap gW)::R) (jF (some ⟨r,o,none⟩) (i:Int) K):=by
 unfold jF;intro w hs;refine⟨λvs w=>∃(j:Nat)(m:List Item),j<h.length/\m.length=h.length/\m.Perm h/\HU m j/\vs=[.i (j:Int)]/\St W w (Sep.pt r cs::own b h.length c 4 (m.flatMap gW)::R),
  λvs _=>match vs with|[.int _ j]=>j.toNat|_=>0,⟨i,h,hi,rfl,bZ.refl _,hu,rfl,hs⟩,?_⟩
 rintro n2 w2 ⟨j,m,hj,Kq,hp,hum,e,hs⟩;cases e
 refine T.at ?_ hs;apply ws;intros;apply ga<;>intro g1
 ·have h0:0<j:=by omega
  have TL:par j<m.length:=by unfold par;omega
  have gx:=aj (show j<m.length by omega);have gy:=aj TL;generalize m[j]=x at gx;generalize m[par j]=y at gy;have kN:j≠par j:=by unfold par;omega
  simp only[MQ h0 (by omega:j<1099511627776)]
  repeat' first|apply ws;intros|apply wb|with_reducible refine nR hv ?_|fail
  refine dL ⟨by omega,by omega⟩ λrb hb=>?_;subst hb;rw[ak];refine gT jf gx ?_
  repeat' first|apply ws;intros|apply wb|with_reducible first|refine nR hv ?_|refine dO (by decide) ?_|fail
  refine tN ⟨by omega,by omega⟩ ?_;rw[ak];refine gT jf gy ?_
  repeat' first|apply ws;intros|apply wb|with_reducible first|refine Nq ?_|refine zu hv ?_|fail
  unfold jF.j1;simp only[MQ h0 (by omega:j<1099511627776)];apply ga<;>intro g2
  ·have hb:=g2
   repeat' first|apply ws;intros|apply wb|with_reducible first|refine nR hv ?_|refine dO (by decide) ?_|fail
   refine tN ⟨by omega,by omega⟩ ?_;rw[ak];refine gT jf gy ?_
   repeat' first|apply ws;intros|apply wb|with_reducible first|refine nR hv ?_|refine dO (by decide) ?_|fail
   refine tN ⟨by omega,by omega⟩ ?_;rw[ak];refine gT jf gx ?_;refine tN ⟨by omega,by omega⟩ ?_;rw[ak];refine dO rfl (rE jf (by omega) (qH _) ?_);refine tN ⟨by omega,by omega⟩ ?_;rw[ak];refine dO rfl (rE jf (by simp;omega) (qH _) ?_);refine dO (by decide) λw3 h3=>⟨⟨par j,XR m j (par j) x y,by omega,by rw[Qo];exact Kq,(LG gx gy kN).trans hp,hum.step h0 gx gy hb,rfl,h3⟩,by show(par j:Int).toNat<(j:Int).toNat;unfold par;omega⟩
  ·refine hk m (hum.heap (.inr ?_)) hp;intro a b ha ry;rw[gx] at ha;rw[gy] at ry;cases ha;cases ry
   exact g2
 ·have h0:j=0:=by omega
  unfold jF.j1;refine ph ?_;exact hk m (hum.heap (.inl h0)) hp
def ach{i:Nat}(hv:cs[o]?=some (.l b h.length c))(hl:h.length<100000)(hi:i<h.length)(hd:HD h i\/Kids h i)
 (hk:∀h',(vY h'\/h'=h/\Kids h i)->h'.Perm h->T W (Sep.pt r cs::own b h.length c 4 (h'.flatMap gW)::R) (K (.tuple ⟨[]⟩))):
 T W (Sep.pt r cs::own b h.length c 4 (h.flatMap gW)::R) (fR (some ⟨r,o,none⟩) (i:Int) K):=by
 unfold fR;intro w hs;refine⟨λvs w=>∃(j:Nat)(m:List Item),j<h.length/\m.length=h.length/\m.Perm h/\(HD m j\/m=h/\j=i/\Kids h i)/\vs=[.i (j:Int)]/\St W w (Sep.pt r cs::own b h.length c 4 (m.flatMap gW)::R),
  λvs _=>match vs with|[.int _ j]=>h.length-j.toNat|_=>0,⟨i,h,hi,rfl,bZ.refl _,hd.imp id λhh=>⟨rfl,rfl,hh⟩,rfl,hs⟩,?_⟩
 rintro n2 w2 ⟨j,m,hj,Kq,hp,Fc,e,hs⟩;cases e
 have e1:aa.wrap (aa.wrap (2* (j:Int))+1)=((2* j+1:Nat):Int):=by
  have:aa.wrap (2* (j:Int))=2* j:=aW (by omega);rw[this,aW (by omega)];omega
 have e2:aa.wrap (aa.wrap (2* (j:Int))+2)=((2* j+2:Nat):Int):=by
  have:aa.wrap (2* (j:Int))=2* j:=aW (by omega);rw[this,aW (by omega)];omega
 rw[e1];refine⟨λvs w=>∃(k d:Nat),2* j+1<=d/\d<=2* j+3/\(k=j\/0<k/\par k=j/\∃x y,m[k]?=some x/\m[j]?=some y/\bf x y)/\(∀q,0<q->par q=j->q<d->NB m q k)/\k<h.length/\
    vs=[.i (j:Int),.i (k:Int),.i (d:Int)]/\St W w (Sep.pt r cs::own b h.length c 4 (m.flatMap gW)::R),
  λvs _=>match vs with|[_,_,.int _ d]=>2* j+3-d.toNat|_=>0,⟨j,2* j+1,aH _,by omega,.inl rfl,(λq h0 hq bX=>by unfold par at hq;omega),hj,rfl,hs⟩,?_⟩
 rintro n5 n6 n7 w5 ⟨k,d,hd1,Rg,hkk,AH,hkl,e,hs⟩;cases e
 refine T.at ?_ hs;rw[e2];have out:(∀q,0<q->par q=j->NB m q k)->T W (Sep.pt r cs::own b h.length c 4 (m.flatMap gW)::R) (fR.j1 K (some ⟨r,o,none⟩) (λvs w=>∃(j:Nat)(m:List Item),j<h.length/\m.length=h.length/\m.Perm h/\(HD m j\/m=h/\j=i/\Kids h i)/\vs=[.i (j:Int)]/\St W w (Sep.pt r cs::own b h.length c 4 (m.flatMap gW)::R))
                      (λvs _=>match vs with|[.int _ j]=>h.length-j.toNat|_=>0) (j:Int) w2 (j:Int) (k:Int)):=by
  intro fG;unfold fR.j1;apply dj<;>intro g1
  ·have:k=j:=by have:(k:Int)=j:=by simpa using g1
                omega
   subst this;refine hk m ?_ hp;rcases Fc with Fc|⟨hm,MK,hki⟩
   ·exact .inl (Fc.heap fG)
   ·exact .inr ⟨hm,hki⟩
  ·have kN:k≠j:=by
    intro hh;subst hh;simp at g1
   obtain⟨h0,YJ,x,y,gx,gy,hb⟩:=hkk.resolve_left kN;have afI:HD m j:=by
    rcases Fc with Fc|⟨hm,MK,hki⟩
    ·exact Fc
    ·subst hm;subst MK;exact aQ hb (hki k h0 YJ x y gx gy)
   repeat' first|apply ws;intros|apply wb|with_reducible refine nR hv ?_|fail
   refine dL ⟨by omega,by omega⟩ λrb ry=>?_;subst ry;rw[ak];refine gT jf gx ?_
   repeat' first|apply ws;intros|apply wb|with_reducible refine nR hv ?_|fail
   refine tN ⟨by omega,by omega⟩ ?_;rw[ak];refine gT jf gy ?_;refine tN ⟨by omega,by omega⟩ ?_;rw[ak];refine dO rfl (rE jf (by omega) (qH _) ?_);refine tN ⟨by omega,by omega⟩ ?_;rw[ak];refine dO rfl (rE jf (by simp;omega) (qH _) ?_);refine λw3 h3=>⟨⟨k,XR m j k y x,hkl,by rw[Qo];exact Kq,(LG gy gx (λhh=>kN hh.symm)).trans hp,.inl (afI.step YJ h0 gy gx hb fG),rfl,h3⟩,by show h.length-(k:Int).toNat<h.length-(j:Int).toNat;unfold par at YJ;omega⟩
 apply ga<;>intro g1
 ·have hle:d<=2* j+2:=by omega
  repeat' first|apply ws;intros|apply wb|with_reducible refine nR hv ?_|fail
  unfold fR.j2;apply ga<;>intro g2
  ·have bX:d<h.length:=by omega
   have gx:=aj (show d<m.length by omega);have gy:=aj (show k<m.length by omega);generalize m[d]=x at gx;generalize hmk:m[k]'(by omega)=y at gy;have hpd:par d=j:=by unfold par;omega
   have e5:=nK d
   repeat' first|apply ws;intros|apply wb|with_reducible refine nR hv ?_|fail
   refine dL ⟨by omega,by omega⟩ λrb hb=>?_;subst hb;rw[ak];refine gT jf gx ?_
   repeat' first|apply ws;intros|apply wb|with_reducible refine nR hv ?_|fail
   refine tN ⟨by omega,by omega⟩ ?_;rw[ak];refine gT jf gy ?_
   repeat' first|apply ws;intros|apply wb|with_reducible first|refine Nq ?_|refine zu hv ?_|fail
   rw[e5];apply ga<;>intro g3
   ·have hb:=g3;refine λw3 h3=>⟨⟨d,d+1,by omega,by omega,.inr ⟨by omega,hpd,x,?_⟩,λq h0 hq yx a b' ha wX=>?_,bX,rfl,h3⟩,by show 2* j+3-((d+1:Nat):Int).toNat<2* j+3-(d:Int).toNat;omega⟩
    ·rcases hkk with rfl|⟨h0,YJ,x1,y1,q1,q2,q3⟩
     ·exact⟨y,gx,gy,hb⟩
     ·rw[gy] at q1;cases q1
      exact⟨y1,gx,q2,Np hb q3⟩
    ·rw[gx] at wX;cases wX
     by_cases hqd:q=d
     ·subst hqd;rw[gx] at ha;cases ha;exact PH x
     ·exact Vb (AH q h0 hq (by omega) a y ha gy) hb
   ·have hb:=g3;refine λw3 h3=>⟨⟨k,d+1,by omega,by omega,hkk,λq h0 hq yx=>?_,hkl,rfl,h3⟩,by show 2* j+3-((d+1:Nat):Int).toNat<2* j+3-(d:Int).toNat;omega⟩;by_cases hqd:q=d
    ·subst hqd;intro a b' ha wX;rw[gx] at ha;rw[gy] at wX;cases ha;cases wX;exact hb
    ·exact AH q h0 hq (by omega)
  ·have jk:h.length<=d:=by omega
   refine out λq h0 hq a b' ha wX=>?_;have:=(ao.1 ha).1;exact AH q h0 hq (by omega) a b' ha wX
 ·have Rd:2* j+2<d:=by omega
  unfold fR.j2;refine ph ?_;exact out λq h0 hq=>AH q h0 hq (by unfold par at hq;omega)
def Ss{z x:Item}{i n:Nat}(hl:h.length=n+1)(hi:i<n)(hz:h[n]?=some z)(hx:h[i]?=some x):(x::(h.set i z).take n).Perm h:=by
 have h1:=Ad (y:=z) hx;have h2:h.set i z=(h.set i z).take n++[z]:=by
  conv=>lhs;rw[<-dy n (h.set i z)]
  congr 1
  have:(h.set i z)[n]?=some z:=by rw[da,ag (by omega)];exact hz
  rw[ij (by simp;omega),gL (by simp;omega)];rw[aj (by simp;omega)] at this;rw[aY.inj this]
 rw[h2] at h1;have h3:(x::((h.set i z).take n++[z])).Perm (z::x::(h.set i z).take n):=((bp (l₁:=(h.set i z).take n) (l₂:=[z])).cons x).trans (bZ.swap _ _ _);exact(List.perm_cons z).1 (h3.symm.trans h1)
def aaZ{α:Type}{r n c e o:Nat}{l:List α}{x:α}{g:α->LV}{f:HP->LH}[i:u9 (ah r) n c L e (l.flatMap g) f](hf:∀x,(g x).length=e)(hx:l[o]?=some x)(h:T W L X):T W L (kp ⟨r,o* e,none⟩ (g x) X):=λw hs=>by
 obtain⟨k,hk,_⟩:=i.at_;exact⟨Az hs hk (ra hf l o x hx),h w hs⟩
def T.XZ{A B C D:HP}(h:T W (A::B::C::D::R) X):T W (C::D::A::B::R) X:=T.perm h (bp (l₁:=[C,D]) (l₂:=[A,B])|>.append_right R)
def T.aab{A B C:HP}(h:T W (A::B::C::R) X):T W (C::A::B::R) X:=T.perm h (bp (l₁:=[C]) (l₂:=[A,B])|>.append_right R)
def T.aac{A B C:HP}(h:T W (A::B::C::R) X):T W (B::C::A::R) X:=T.perm h (bp (l₁:=[B,C]) (l₂:=[A])|>.append_right R)
def aaU{i:Nat}{x:Item}(hv:cs[o]?=some (.l b h.length c))(hl:h.length<100000)(hx:h[i]?=some x)(hh:vY h)
 (hk:∀h',vY h'->(x::h').Perm h->T W (Sep.pt r (cs.set o (.l b h'.length c))::own b h'.length c 4 (h'.flatMap gW)::R) (K (.agg ⟨gW x⟩))):
 T W (Sep.pt r cs::own b h.length c 4 (h.flatMap gW)::R) (qF (some ⟨r,o,none⟩) (i:Int) K):=by
 have hi:=(ao.1 hx).1;obtain⟨n,hn⟩:∃n,h.length=n+1:=⟨h.length-1,by omega⟩;have gz:=aj (show n<h.length by omega);generalize h[n]=z at gz;have e1:aa.wrap ((h.length:Int) -1)=(n:Int):=by rw[aW (by omega)];omega
 unfold qF
 repeat' first|apply ws;intros|apply wb|with_reducible refine nR hv ?_|fail
 refine dL ⟨by omega,by omega⟩ λrb hb=>?_;subst hb;rw[ak];refine gT jf hx ?_
 repeat' first|apply ws;intros|apply wb|with_reducible first|refine nR hv ?_|refine zu hv ?_|fail
 refine aaZ jf hx ?_
 repeat' first|apply ws;intros|apply wb|with_reducible first|refine nR hv ?_|refine zu hv ?_|fail
 rw[e1];refine tN ⟨by omega,by omega⟩ ?_;rw[ak];refine gT jf gz ?_;refine tN ⟨by omega,by omega⟩ ?_;rw[ak];refine dO rfl (rE jf hi (qH _) ?_)
 repeat' first|apply ws;intros|apply wb|with_reducible first|refine nR hv ?_|refine zu hv ?_|fail
 refine rv (b:=ah rb) λvX _=>?_;refine A4 (by omega) ?_;refine BW (b:=ah rb) (i:=n) jf (by omega) ?_
 repeat' first|apply ws;intros|apply wb|with_reducible refine JU hv rfl ?_|fail
 have D7:=tY (v:=.l (ah rb) n c) hv;apply ga<;>intro g1
 ·have bX:i<n:=by omega
  have hp:=Ss hn bX gz hx;have Kq:((h.set i z).take n).length=n:=by simp;omega
  rename_i r1 r2;refine T.XZ ?_;have key:HD ((h.set i z).take n) i\/HU ((h.set i z).take n) i/\Kids ((h.set i z).take n) i:=by
   by_cases h0:i=0
   ·exact .inl (Qe hh hn bX gz (.inl h0))
   ·have TL:par i<h.length:=by unfold par;omega
    have gy:=aj TL;generalize h[par i]=y at gy;by_cases hb:bf z y
    ·exact .inr (XM hh hn bX gz (by omega) gy hb)
    ·refine .inl (Qe hh hn bX gz (.inr ?_));intro a b' ha ry;have NS:par i≠i:=by unfold par;omega
     have hpn:par i<n:=by unfold par;omega
     rw[sH,ai bX,da,ai rfl,ai hi] at ha;rw[sH,ai hpn,da,ag (λh=>NS h.symm),gy] at ry;cases ha;cases ry;exact hb
  generalize (h.set i z).take n=m at hp Kq key;subst Kq;refine ach D7 (by omega) bX (key.imp id (·.2)) λm2 Lg Ec=>?_;apply ws;intros;have SW:=Ec.length_eq;rw[<-SW];have Vq:=tY (v:=.l (ah rb) m2.length c) hv;have hu2:HU m2 i:=by
   rcases Lg with Lg|⟨rfl,hki⟩
   ·exact Lg.hu i
   ·rcases key with k1|k1
    ·exact(k1.heap hki).hu i
    ·exact k1.1
  refine acQ Vq (by omega) (by omega) hu2 λm3 hm3 hp3=>?_;apply ws;intros;have Xp:=hp3.length_eq;have:=hk m3 hm3 ((hp3.trans Ec).cons x|>.trans hp);rw[Xp] at this;exact T.XZ (T.drop (T.drop this))
 ·have hie:i=n:=by omega
  subst hie;apply ws;intros;have hm:(h.set i z).take i=h.take i:=by rw[List.take_set_of_le (aH _)]
  rw[hm];have Kq:(h.take i).length=i:=by simp;omega
  have hh':vY (h.take i):=λj h0 a b' ha ry=>by
   rw[sH] at ha ry;split at ha
   ·split at ry
    ·exact hh j h0 a b' ha ry
    ·cases ry
   ·cases ha
  have:=hk (h.take i) hh' (by
   conv=>rhs;rw[<-dy i h]
   have:h.drop i=[x]:=by
    rw[ij hi,gL (by omega)]
    rw[aj hi] at hx
    rw[aY.inj hx]
   rw[this]
   exact bp (l₁:=[x]) (l₂:=h.take i))
  rw[Kq] at this;exact T.dp this
def abm{x:Item}(hv:cs[o]?=some (.l b h.length c))(hl:h.length<10000)(hh:vY h)
 (hk:∀b' c' h',vY h'->h'.Perm (h++[x])->T W (Sep.pt r (cs.set o (.l b' h'.length c'))::own b' h'.length c' 4 (h'.flatMap gW)::R) (K (.tuple ⟨[]⟩))):
 T W (Sep.pt r cs::own b h.length c 4 (h.flatMap gW)::R) (mn (some ⟨r,o,none⟩) (gW x) K):=by
 unfold mn;refine uH λr1=>aa3 ?_
 repeat' first|apply ws;intros|apply wb|with_reducible first|refine nR hv ?_|refine zu hv ?_|fail
 refine jS (x:=x) (by simp) rfl rfl (by omega) (by omega) (qH _) λb' c'=>?_
 repeat' first|apply ws;intros|apply wb|with_reducible first|refine JU hv rfl ?_|refine nR (tY hv) ?_|fail
 rename_i r2;have e1:aa.wrap (((h.length+1:Nat):Int) -1)=(h.length:Int):=by rw[aW (by omega)];omega
 rw[e1];refine T.XZ ?_;have hu:HU (h++[x]) h.length:=by
  refine⟨λj h0 hj a b' ha ry=>?_,λj h0 hp hi a b' ha ry=>?_⟩
  ·have bX:=(ao.1 ha).1;simp at bX;rw[bh (by omega)] at ha;rw[bh (by unfold par;omega)] at ry;exact hh j h0 a b' ha ry
  ·have bX:=(ao.1 ha).1;simp at bX;unfold par at hp;omega
 have D7:=tY (v:=.l b' (h.length+1) c') hv;have NV:(h++[x]).length=h.length+1:=by simp
 rw[<-NV] at D7⊢;refine acQ D7 (by omega) (by simp) hu λm hm hp=>?_;apply ws;intros;have:=hk b' c' m hm hp;rw[hp.length_eq] at this;exact T.XZ (T.drop (T.drop this))
def Yc{s:Int}(hv:cs[o]?=some (.l b h.length c))(hl:h.length<10000)(hh:vY h)
 (h1:∀x m,x.ay=s->vY m->(x::m).Perm h->T W (Sep.pt r (cs.set o (.l b m.length c))::own b m.length c 4 (m.flatMap gW)::R) (K (.b true)))
 (h0:(∀x∈h,x.ay≠s)->T W (Sep.pt r cs::own b h.length c 4 (h.flatMap gW)::R) (K (.b false))):
 T W (Sep.pt r cs::own b h.length c 4 (h.flatMap gW)::R) (mV (some ⟨r,o,none⟩) s K):=by
 unfold mV;refine zv ?_
 repeat' first|apply ws;intros|apply wb|with_reducible refine nR hv ?_|fail
 intro w hs;refine⟨λvs w=>∃(i:Nat),i<=h.length/\(∀j x,j<i->h[j]?=some x->x.ay≠s)/\vs=[.b false,.l b h.length c,.i (h.length:Int),.i (i:Int)]/\St W w (Sep.pt r cs::own b h.length c 4 (h.flatMap gW)::R),
  λvs _=>match vs with|[_,_,_,.int _ d]=>h.length-d.toNat|_=>0,⟨0,aE _,(λj x hj=>by omega),rfl,hs⟩,?_⟩
 rintro b1 jT jd ku n2 n3 w2 ⟨i,hi,HC,e,hs⟩;cases e
 refine T.at ?_ hs;apply ga<;>intro g1
 ·have bX:i<h.length:=by omega
  have gx:=aj bX;generalize h[i]=x at gx;have e5:=nK i;refine dL ⟨by omega,by omega⟩ λrb hb=>?_;subst hb;rw[ak];refine gT jf gx ?_;apply ws;intros;rename_i r1;rw[e5];apply dj<;>intro g2
  ·refine T.aab ?_;refine aaU hv (by omega) gx hh λm hm hp=>?_;apply ws;intros;refine T.aac (T.drop ?_);exact h1 x m (by simpa using g2) hm hp
  ·refine T.drop λw3 h3=>⟨⟨i+1,bX,λj y hj hy=>?_,rfl,h3⟩,by show h.length-((i+1:Nat):Int).toNat<h.length-(i:Int).toNat;omega⟩;by_cases MK:j=i
   ·subst MK;rw[gx] at hy;cases hy;simpa using g2
   ·exact HC j y (by omega) hy
 ·have jk:i=h.length:=by omega
  refine h0 λx hx=>?_;obtain⟨j,hj⟩:=qM hx;exact HC j x (by have:=(ao.1 hj).1;omega) hj
end
class XA{α β:Type}(P:α->HP)(Q:β->HP)(L:LH)(x:outParam α)(y:outParam β)(F:outParam (α->β->LH)):Prop where
 at_:∃R:LH,L.Perm (P x::Q y::R)/\∀x' y',(F x' y').Perm (P x'::Q y'::R)
section
variable {α β:Type} {P:α->HP} {Q:β->HP} {L:LH} {x:α} {y:β}
def Lc.perm{f:α->LH}(h:Lc P L x f):∃R:LH,L.Perm (P x::R)/\∀x',(f x').Perm (P x'::R):=by
 obtain⟨k,h1,h2⟩:=h.at_;exact⟨L.eraseIdx k,tI h1,λy=>by rw[h2];exact(set_perm h1).symm⟩
instance(priority:=low) XA.tail{A:HP}{F:α->β->LH}[h:XA P Q L x y F]:XA P Q (A::L) x y (λa b=>A::F a b):=by
 obtain⟨R,h1,h2⟩:=h.at_;exact⟨A::R,(h1.cons A).trans ((bZ.swap _ _ _).trans ((bZ.swap _ _ _).cons _)),λa b=>((h2 a b).cons A).trans ((bZ.swap _ _ _).trans ((bZ.swap _ _ _).cons _))⟩
instance XA.ais{f:α->LH}[h:Lc P L x f]:XA P Q (Q y::L) x y (λa b=>Q b::f a):=by
 obtain⟨R,h1,h2⟩:=h.perm;exact⟨R,(h1.cons _).trans (bZ.swap _ _ _),λa b=>((h2 a).cons _).trans (bZ.swap _ _ _)⟩
def ET{W:World}{X:WK}{F:α->β->LH}[i:XA P Q L x y F](h:∀R,(∀M a b Y,T W (M++F a b) Y->T W (M++P a::Q b::R) Y)->T W (P x::Q y::R) X):T W L X:=by
 obtain⟨R,h1,h2⟩:=i.at_;exact T.perm (h R λM a b Y hy=>T.perm hy ((h2 a b).symm.append_left M)) h1
end
def St.ta{W w:World}:∀(M R:LH),St W w (vW M::R)->St W w (M++R)
 |[],R,h=>h.drop
 |A::M,R,h=>(St.ta M (A::R) (h.split.perm (bZ.swap _ _ _))).perm iq
def St.rF{W w:World}:∀(M R:LH),St W w (M++R)->St W w (vW M::R)
 |[],R,h=>h.push trivial
 |A::M,R,h=>St.join ((St.rF M (A::R) (h.perm iq.symm)).perm (bZ.swap _ _ _))
structure Core where
 la:Nat
 lk:Nat
 ti:Nat
 tn:Nat
 vs:LV
 dP:List oC
 ends:List Item
 clock:Int
 ay:Int
def jz(q:Core)(b1:OA)(c1:Nat)(b2:OA)(c2:Nat)(b3:OA)(n3 c3:Nat):LV:=
 [.l b1 q.vs.length c1,.p (some (ad q.la 0)),.p (some (ad q.lk 0)),.p (some (ad q.ti 0)),.p (some (ad q.tn 0)),.l b2 q.dP.length c2,.l b3 n3 c3,.i q.clock,.i q.ay]
def coreS(p:Nat)(q:Core)(b1:OA)(c1:Nat)(b2:OA)(c2:Nat)(b3:OA)(c3:Nat)(h:List Item):LH:=
 [Sep.pt p (jz q b1 c1 b2 c2 b3 h.length c3),own b1 q.vs.length c1 1 q.vs,own b2 q.dP.length c2 2 (q.dP.flatMap pI),own b3 h.length c3 4 (h.flatMap gW)]
def ic(p:Nat)(q:Core):HP:=
 TT λz:(OA×Nat)×(OA×Nat)×(OA×Nat)×List Item=>EL (vY z.2.2.2/\z.2.2.2.Perm q.ends) (vW (coreS p q z.1.1 z.1.2 z.2.1.1 z.2.1.2 z.2.2.1.1 z.2.2.1.2 z.2.2.2))
def z7(q:Core)(o:Nat):Option Value:=match o with
 |1=>some (.p (some (ad q.la 0)))
 |2=>some (.p (some (ad q.lk 0)))
 |3=>some (.p (some (ad q.ti 0)))
 |4=>some (.p (some (ad q.tn 0)))
 |7=>some (.i q.clock)
 |8=>some (.i q.ay)
 |_=>none
section
variable {W:World} {L:LH} {K:VK} {X:WK} {p o:Nat} {q:Core} {f:Core->LH} {v:Value}
def JE{R:LH}(hx:∀b1 c1 b2 c2 b3 c3 h,vY h->h.Perm q.ends->T W (Sep.pt p (jz q b1 c1 b2 c2 b3 h.length c3)::own b1 q.vs.length c1 1 q.vs::own b2 q.dP.length c2 2 (q.dP.flatMap pI)::own b3 h.length c3 4 (h.flatMap gW)::R) X):T W (ic p q::R) X:=λw hs=>by
 obtain⟨⟨⟨b1,c1⟩,⟨b2,c2⟩,⟨b3,c3⟩,hp⟩,hs⟩:=hs.ex;obtain⟨⟨h1,h2⟩,hs⟩:=hs.and;exact hx b1 c1 b2 c2 b3 c3 hp h1 h2 w (St.ta _ _ hs)
def Bx{R:LH}{b1:OA}{c1:Nat}{b2:OA}{c2:Nat}{b3:OA}{c3:Nat}{h:List Item}(h1:vY h)(h2:h.Perm q.ends)(hx:T W (ic p q::R) X):T W (Sep.pt p (jz q b1 c1 b2 c2 b3 h.length c3)::own b1 q.vs.length c1 1 q.vs::own b2 q.dP.length c2 2 (q.dP.flatMap pI)::own b3 h.length c3 4 (h.flatMap gW)::R) X:=λw hs=>
 hx w (St.rh ((b1,c1),(b2,c2),(b3,c3),h) (St.and_intro ⟨h1,h2⟩ (St.rF _ _ hs)))
def ES{α:Type}{P:α->HP}{a:α}{f:α->LH}[i:Lc P L a f](h:∀R,(∀M y Y,T W (M++f y) Y->T W (M++P y::R) Y)->T W (P a::R) X):T W L X:=by
 obtain⟨R,h1,h2⟩:=i.perm;exact T.perm (h R λM y Y hy=>T.perm hy ((h2 y).symm.append_left M)) h1
def T.J6{R:LH}{A B C:HP}(h:T W (A::C::B::R) X):T W (A::B::C::R) X:=T.perm h ((bZ.swap _ _ _).cons _)
def T.Ox{R:LH}{A B C D:HP}(h:T W (A::D::B::C::R) X):T W (A::B::C::D::R) X:=T.perm h ((bp (l₁:=[B,C]) (l₂:=[D])|>.append_right R).cons _)
def T.F5{R:LH}{A B C D:HP}(h:T W (A::B::C::D::R) X):T W (A::D::B::C::R) X:=T.perm h ((bp (l₁:=[D]) (l₂:=[B,C])|>.append_right R).cons _)
def qQ[i:Lc (ic p) L q f](hx:∀b1 c1 b2 c2 b3 c3 h R,vY h->h.Perm q.ends->
 (∀M q' b1 c1 b2 c2 b3 c3 h Y,vY h->h.Perm q'.ends->T W (M++f q') Y->T W (M++Sep.pt p (jz q' b1 c1 b2 c2 b3 h.length c3)::own b1 q'.vs.length c1 1 q'.vs::own b2 q'.dP.length c2 2 (q'.dP.flatMap pI)::own b3 h.length c3 4 (h.flatMap gW)::R) Y)->T W (Sep.pt p (jz q b1 c1 b2 c2 b3 h.length c3)::own b1 q.vs.length c1 1 q.vs::own b2 q.dP.length c2 2 (q.dP.flatMap pI)::own b3 h.length c3 4 (h.flatMap gW)::R) X):T W L X:=
 ES (P:=ic p) λR hc=>JE λb1 c1 b2 c2 b3 c3 h h1 h2=>hx b1 c1 b2 c2 b3 c3 h R h1 h2 λM q' b1 c1 b2 c2 b3 c3 h Y g1 g2 hy=>
  T.perm (Bx (R:=M++R) g1 g2 (T.perm (hc M q' Y hy) (iq.symm))) (by
   have:=bp (l₁:=M) (l₂:=[Sep.pt p (jz q' b1 c1 b2 c2 b3 h.length c3),own b1 q'.vs.length c1 1 q'.vs,own b2 q'.dP.length c2 2 (q'.dP.flatMap pI),own b3 h.length c3 4 (h.flatMap gW)])|>.append_right R
   simpa using this)
def CB{b1:OA}{c1:Nat}{b2:OA}{c2:Nat}{b3:OA}{c3 n:Nat}(hv:z7 q o=some v):(jz q b1 c1 b2 c2 b3 n c3)[o]?=some v:=by
 unfold z7 at hv;split at hv<;>first|exact hv|cases hv
def ac2[i:Lc (ic p) L q f](hv:z7 q o=some v)(h:T W L (K v)):T W L (ld ⟨p,o,none⟩ K):=by
 have hL:f q=L:=i.same;refine qQ (p:=p) λb1 c1 b2 c2 b3 c3 hp R h1 h2 hc=>?_;refine nR (r:=p) (CB hv) ?_;exact hc [] q _ _ _ _ _ _ _ _ h1 h2 (by rw[hL];exact h)
def ac3[i:Lc (ic p) L q f](hv:z7 q o=some v)(h:T W L X):T W L (kp ⟨p,o,none⟩ [v] X):=by
 have hL:f q=L:=i.same;refine qQ (p:=p) λb1 c1 b2 c2 b3 c3 hp R h1 h2 hc=>?_;refine zu (r:=p) (CB hv) ?_;exact hc [] q _ _ _ _ _ _ _ _ h1 h2 (by rw[hL];exact h)
class Gc(q:Core)(o:Nat)(v:outParam Value):Prop where
 is:z7 q o=some v
instance:Gc q 1 (.p (some (ad q.la 0))):=⟨rfl⟩
instance:Gc q 2 (.p (some (ad q.lk 0))):=⟨rfl⟩
instance:Gc q 3 (.p (some (ad q.ti 0))):=⟨rfl⟩
instance:Gc q 4 (.p (some (ad q.tn 0))):=⟨rfl⟩
instance:Gc q 7 (.i q.clock):=⟨rfl⟩
instance:Gc q 8 (.i q.ay):=⟨rfl⟩
instance[i:Lc (ic p) L q f][g:Gc q o v]:Lv L p o v:=⟨λh=>ac2 (i:=i) g.is h,λh=>ac3 (i:=i) g.is h⟩
def Oi[i:Lc (ic p) L q f]{t:Int}(h:T W (f {q with clock:=t}) X):T W L (st ⟨p,7,none⟩ (.i t) X):=by
 refine qQ (p:=p) λb1 c1 b2 c2 b3 c3 hp R h1 h2 hc=>?_;unfold jz;apply ws;intros;exact hc [] {q with clock:=t} _ _ _ _ _ _ _ _ h1 h2 h
def Oh[i:Lc (ic p) L q f]{t:Int}(h:T W (f {q with ay:=t}) X):T W L (st ⟨p,8,none⟩ (.i t) X):=by
 refine qQ (p:=p) λb1 c1 b2 c2 b3 c3 hp R h1 h2 hc=>?_;unfold jz;apply ws;intros;exact hc [] {q with ay:=t} _ _ _ _ _ _ _ _ h1 h2 h
def xe[i:Lc (ic p) L q f](hl:q.vs.length<1000000)(h1v:v.oneCell'=true)(hcv:fL v=[v])(h:T W (f {q with vs:=q.vs++[v]}) (K (.tuple ⟨[]⟩))):T W L (iL (ah p) v K):=by
 refine qQ (p:=p) λb1 c1 b2 c2 b3 c3 hp R h1 h2 hc=>?_;unfold iL jz;rw[hcv];apply ws;intros;refine Uu (ys:=[v]) (n:=q.vs.length) (bytes:=8) rfl rfl (by omega) (λu hu=>by simp at hu;rw[hu];exact h1v) (λb' c'=>?_) (by omega);apply ws;intros;have:=hc [] {q with vs:=q.vs++[v]} b' c' b2 c2 b3 c3 hp _ h1 h2 h;unfold jz at this;simp only[aw,qg] at this;exact T.drop this
def acB[i:Lc (ic p) L q f](h:T W L (K (.i (q.vs.length:Int)))):T W L (tz (ah p) K):=by
 have hL:f q=L:=i.same;refine qQ (p:=p) λb1 c1 b2 c2 b3 c3 hp R h1 h2 hc=>?_;unfold tz jz;apply ws;intros;exact hc [] q _ _ _ _ _ _ _ _ h1 h2 (by rw[hL];exact h)
def Rv[i:Lc (ic p) L q f]{s a:Int}(hr:tv q.dP)(hl:q.dP.length<1099511627)(hs:∀x∈q.dP,x.1<s)(h:T W (f {q with dP:=q.dP++[(s,a)]}) (K (.b true))):T W L (jG (some ⟨p,5,none⟩) s a K):=by
 refine qQ (p:=p) λb1 c1 b2 c2 b3 c3 hp R h1 h2 hc=>?_;refine T.J6 ?_;refine abq rfl hr hl hs λb' c'=>?_;refine T.J6 ?_;have:=hc [] {q with dP:=q.dP++[(s,a)]} b1 c1 b' c' b3 c3 hp _ h1 h2 h;simp only[jz,aw,qg] at this;exact this
def Wl[i:Lc (ic p) L q f]{s a:Int}{l0:List oC}(hr:tv q.dP)(hl:q.dP.length<1099511627)(hs:q.dP=l0++[(s,a)])(h:T W (f {q with dP:=l0}) (K (.b true))):T W L (jL (some ⟨p,5,none⟩) s K):=by
 refine qQ (p:=p) λb1 c1 b2 c2 b3 c3 hp R h1 h2 hc=>?_;refine T.J6 ?_;refine Yi rfl hr hl hs λb' c'=>?_;refine T.J6 ?_;exact hc [] {q with dP:=l0} b1 c1 b' c' b3 c3 hp _ h1 h2 h
def Tn[i:Lc (ic p) L q f]{from_ toX:Int}{Ar:Bool}(hr:tv q.dP)(hl:q.dP.length<100000)
 (h:∀b' c' out,out=(if Ar then(qR from_ toX q.dP).reverse else qR from_ toX q.dP)->T W (own b' out.length c' 2 (out.flatMap pI)::L) (K (.l b' out.length c'))):T W L (gG (some ⟨p,5,none⟩) from_ toX Ar K):=by
 have hL:f q=L:=i.same;refine qQ (p:=p) λb1 c1 b2 c2 b3 c3 hp R h1 h2 hc=>?_;refine U6 (b:=b2) (c:=c2) rfl hr hl λb' c' out ho=>?_;exact hc [_] q b1 c1 b2 c2 b3 c3 hp _ h1 h2 (by rw[hL];exact h b' c' out ho)
def KJ[i:Lc (ic p) L q f]{x:Item}{e':List Item}(hl:q.ends.length<10000)(he:e'.Perm (q.ends++[x]))(h:T W (f {q with ends:=e'}) (K (.tuple ⟨[]⟩))):T W L (mn (some ⟨p,6,none⟩) (gW x) K):=by
 refine qQ (p:=p) λb1 c1 b2 c2 b3 c3 hp R h1 h2 hc=>?_;refine T.Ox ?_;refine abm rfl (by rw[h2.length_eq];exact hl) h1 λb' c' h' g1 g2=>?_;refine T.F5 ?_;exact hc [] {q with ends:=e'} b1 c1 b2 c2 b' c' h' _ g1 (g2.trans ((h2.append_right _).trans he.symm)) h
def Nb[i:Lc (ic p) L q f]{s:Int}(hl:q.ends.length<10000)
 (h1:∀x e',x.ay=s->(x::e').Perm q.ends->T W (f {q with ends:=e'}) (K (.b true)))(h0:(∀x∈q.ends,x.ay≠s)->T W L (K (.b false))):T W L (mV (some ⟨p,6,none⟩) s K):=by
 have hL:f q=L:=i.same;rw[<-hL] at h0;refine qQ (p:=p) λb1 c1 b2 c2 b3 c3 hp R g1 g2 hc=>?_;refine T.Ox ?_;refine Yc rfl (by rw[g2.length_eq];exact hl) g1 (λx m hx hm hpm=>?_) (λHC=>?_)
 ·refine T.F5 ?_;exact hc [] {q with ends:=m} b1 c1 b2 c2 b3 c3 m _ hm (bZ.refl _) (h1 x m hx (hpm.trans g2))
 ·refine T.F5 ?_;exact hc [] q b1 c1 b2 c2 b3 c3 hp _ g1 g2 (h0 λx hx=>HC x (g2.mem_iff.2 hx))
end
def j0(a:bJ):(aL a).length=14:=rfl
def xt(k:ch):(bF k).length=33:=rfl
section
variable {x1 x2 x3 x4 x5 x6 x7 x8 x9 Fz Fy Fx Fw JN N8 N7 ZW ZV x19 x20 x21 x22 x23 x24 x25 x26 x27 x28 x29 x30 x31 x32 x33:Value} {k k':ch} {i:Int} {m t:cM}
def zK:ch:=⟨zT,zT,0⟩
instance:Wr [x1,x2,x3,x4,x5,x6,x7,x8,x9,Fz,Fy,Fx,Fw,JN,N8,N7,ZW,ZV,x19,x20,x21,x22,x23,x24,x25,x26,x27,x28,x29,x30,x31,x32,x33] 0 (bF k) (bF k):=⟨rfl,aH _,ni k⟩
instance:Wr (bF k) 0 (bF k') (bF k'):=⟨rfl,aH _,ni k'⟩
instance:Wr [x1,x2,x3,x4,x5,x6,x7,x8,x9,Fz,Fy,Fx,Fw,JN,N8,N7,ZW,ZV,x19,x20,x21,x22,x23,x24,x25,x26,x27,x28,x29,x30,x31,x32,x33] 0 [.u 0,.u 0,.u 0,.u 0,.u 0,.u 0,.u 0,.u 0,.u 0,.u 0,.i 0,.i 0,.i 0,.i 0,.i 0,.i 0,.u 0,.u 0,.u 0,.u 0,.u 0,.u 0,.u 0,.u 0,.u 0,.u 0,.i 0,.i 0,.i 0,.i 0,.i 0,.i 0,.i 0] (bF zK):=⟨rfl,aH _,ni zK⟩
instance:Wr (bF k) 32 [.i i] (bF {k with fate:=i}):=⟨rfl,by show 33<=33;decide,λv h=>by simp at h;subst h;rfl⟩
instance:Wr (bF k) 30 [.i i] (bF {k with move:={k.move with ay:=i}}):=⟨rfl,by show 31<=33;decide,λv h=>by simp at h;subst h;rfl⟩
instance:Wr (bF k) 31 [.i i] (bF {k with move:={k.move with jh:=i}}):=⟨rfl,by show 32<=33;decide,λv h=>by simp at h;subst h;rfl⟩
instance:Sub (bF k) 16 2 (nm k.move.id):=⟨AE rfl rfl⟩
instance:Wr [x1,x2,x3,x4,x5,x6,x7,x8,x9,Fz,Fy,Fx,Fw,JN,N8,N7,ZW,ZV,x19,x20,x21,x22,x23,x24,x25,x26,x27,x28,x29,x30,x31,x32,x33] 0 (aM m++(aM t++[.i i])) (bF ⟨m,t,i⟩):=⟨rfl,aH _,ni ⟨m,t,i⟩⟩
end
class Xz(M L:LH):Prop where
 is:M.Sublist L
instance{L:LH}:Xz L L:=⟨bj.refl _⟩
instance(priority:=low){M L:LH}{A:HP}[h:Xz M L]:Xz M (A::L):=⟨h.is.cons A⟩
instance{M L:LH}{A:HP}[h:Xz M L]:Xz (A::M) (A::L):=⟨h.is.cons_cons A⟩
instance{R L:LH}[h:Xz R L]:Xz ([]++R) L:=⟨h.is⟩
instance{M R L:LH}{A:HP}[h:Xz (A::(M++R)) L]:Xz (A::M++R) L:=⟨h.is⟩
def qo{M L:LH}[h:Xz M L]:M.Sublist L:=h.is
def T.sub{W:World}{L M:LH}{X:WK}(h:T W M X)(s:M.Sublist L):T W L X:=by
 obtain⟨D,hD⟩:=s.exists_perm_append;have key:∀(D:LH),T W (D++M) X:=λD=>by
  induction D with
  |nil=>exact h
  |cons A D ih=>exact T.drop ih
 exact T.perm (key D) (hD.trans bp)
def sT{α:Type}(g:α->LV)(e l:Nat)(x:Nat×List α):HP:=
 TT λz:OA×Nat=>vW [Sep.pt l [.l z.1 x.2.length z.2,.p (some (ad x.1 0))],own z.1 x.2.length z.2 e (x.2.flatMap g)]
def se{W:World}{L:LH}{α:Type}{b b':OA}{n c m c1 e bytes:Nat}{zero:LV}{l0 l1:List α}{g:α->LV}{f f':HP->LH}{K:OA->Nat->Nat->WK}[i:u9 b n c L e (l0.flatMap g) f][j:u9 b' m c1 L e (l1.flatMap g) f'](hg:∀x,(g x).length=e)(hz:zero.length=e)
 (hb:(n+m)* bytes<=140737488355328/\n+m<=9223372036854775807)(h1:∀x,∀v∈g x,v.oneCell'=true)(h:∀b2 c2,T W (f (own b2 (n+m) c2 e ((l0++l1).flatMap g))) (K b2 (n+m) c2)):T W L (iz e bytes zero b n c b' m K):=λw hs=>by
 obtain⟨k,hk,e1⟩:=i.at_;obtain⟨k2,q8,_⟩:=j.at_;obtain⟨Bn,o7⟩:=RG (m:=m) hs q8;refine u6 hs hk Bn o7 hz hb.1 hb.2 (λv hv=>?_) λb2 c2 w' h'=>h b2 c2 w' (by rw[e1,gA];exact h');obtain⟨x,_,hx⟩:=List.mem_flatMap.1 hv;exact h1 x v hx
section
variable {W:World} {L R:LH} {K:VK} {X:WK} {α:Type} {g:α->LV} {e l p:Nat} {items:List α} {f:Nat×List α->LH}
def so(h:∀b c,T W (Sep.pt l [.l b items.length c,.p (some (ad p 0))]::own b items.length c e (items.flatMap g)::R) X):T W (sT g e l (p,items)::R) X:=λw hs=>by
 obtain⟨⟨b,c⟩,hs⟩:=hs.ex;exact h b c w (St.ta _ _ hs)
def uX{b:OA}{n c:Nat}(hn:n=items.length)(h:T W (sT g e l (p,items)::R) X):T W (Sep.pt l [.l b n c,.p (some (ad p 0))]::own b n c e (items.flatMap g)::R) X:=λw hs=>by
 subst hn;exact h w (St.rh (b,c) (St.rF _ _ hs))
def yl{M:LH}{b:OA}{n c:Nat}(hn:n=items.length)(h:T W (M++sT g e l (p,items)::R) X):T W (M++Sep.pt l [.l b n c,.p (some (ad p 0))]::own b n c e (items.flatMap g)::R) X:=
 T.perm (uX (g:=g) (e:=e) (l:=l) (p:=p) (R:=M++R) hn (T.perm h iq.symm)) (by
  have:=bp (l₁:=M) (l₂:=[Sep.pt l [.l b n c,.p (some (ad p 0))],own b n c e (items.flatMap g)])|>.append_right R
  simpa using this)
def ID[i:Lc (sT g e l) L (p,items) f](h:∀b c R,(∀M b' n' c' GH Y,n'=GH.length->T W (M++f (p,GH)) Y->T W (M++Sep.pt l [.l b' n' c',.p (some (ad p 0))]::own b' n' c' e (GH.flatMap g)::R) Y)->
 T W (Sep.pt l [.l b items.length c,.p (some (ad p 0))]::own b items.length c e (items.flatMap g)::R) X):T W L X:=
 ES (P:=sT g e l) λR hc=>so λb c=>h b c R λM b' n' c' GH Y hn hy=>
  T.perm (uX (g:=g) (e:=e) (l:=l) (p:=p) (R:=M++R) hn (T.perm (hc M _ Y hy) iq.symm)) (by
   have:=bp (l₁:=M) (l₂:=[Sep.pt l [.l b' n' c',.p (some (ad p 0))],own b' n' c' e (GH.flatMap g)])|>.append_right R
   simpa using this)
end
section
variable {W:World} {L R:LH} {K:VK} {X:WK} {l p:Nat} {items:List bJ} {f:Nat×List bJ->LH} {F:Nat×List bJ->Core->LH} {q:Core} {x y:bJ}
def P6[i:Lc (sT aL 14 l) L (p,items) f](h:T W L (K (.i (items.length:Int)))):T W L (gw (ah l) K):=by
 have hL:f (p,items)=L:=i.same;refine ID (g:=aL) (e:=14) (l:=l) λb c R hc=>?_;unfold gw;apply ws;intros;exact hc [] _ _ _ _ _ rfl (by rw[hL];exact h)
def Xg{b:OA}{c:Nat}{v:Value}{n:Nat}{f1:LV->LH}{f2:HP->LH}[i:Lc (Sep.pt l) L [.l b items.length c,v] f1][j:u9 b items.length c L 14 (items.flatMap aL) f2](hx:items[n]?=some x)(hl:items.length<1000000)
 (h:T W L (K (.tuple ⟨[.agg ⟨aL x⟩,.b true]⟩))):T W L (dU (ah l) (n:Int) K):=by
 have bX:=(ao.1 hx).1;unfold dU;apply ws;intros;refine fW (by simp) ?_;unfold gw;apply ws;intros;unfold dU.j1;refine fW (by simp;omega) ?_;apply ws;intros;refine dL ⟨by omega,by omega⟩ λr hr=>?_;subst hr;rw[ak];refine gT j0 hx ?_;apply ws;intros;exact T.dp h
def ae9[i:Lc (sT aL 14 l) L (p,items) f]{n:Nat}(hx:items[n]?=some x)(hl:items.length<1000000)(h:T W L (K (.tuple ⟨[.agg ⟨aL x⟩,.b true]⟩))):T W L (dU (ah l) (n:Int) K):=by
 have hL:f (p,items)=L:=i.same;refine ID (g:=aL) (e:=14) (l:=l) λb c R hc=>?_;refine Xg hx hl ?_;exact hc [] _ _ _ _ _ rfl (by rw[hL];exact h)
abbrev CE(r1 r3:Nat):Value:=.func (.func N.cI) ⟨[]⟩ ⟨[.p (some (ad r1 0)),.p (some (ad r3 0))]⟩
abbrev Fh(r4 r1 r2:Nat):Value:=.func (.func N.cH) ⟨[]⟩ ⟨[.p (some (ad r4 0)),.p (some (ad r1 0)),.p (some (ad r2 0))]⟩
def Xh[i:Lc (sT aL 14 l) L (p,items) f][j:XA (sT aL 14 l) (ic p) L (p,items) q F](hl:items.length<1000000)(hv:q.vs.length<1000000)
 (h:∀r1 r3,T W (Sep.pt r3 [.i (items.length:Int)]::Sep.pt r1 [.p (some (ad l 0))]::F (p,items++[x]) {q with vs:=q.vs++[CE r1 r3]}) (K (.i (items.length:Int)))):
 T W L (jj (ah l) (aL x) K):=by
 refine ET (P:=sT aL 14 l) (Q:=ic p) λR hc=>?_;refine so λb c=>?_;unfold jj;apply ws;intros;refine jS (x:=x) (by simp) rfl rfl (by omega) (by omega) (iT _) λb' c'=>?_;apply ws;intros;refine xe (p:=p) hv rfl rfl ?_;apply ws;intros;rename_i r1 r2 r3 r4;refine T.sub (M:=[Sep.pt r3 _,Sep.pt r1 _]++Sep.pt l _::own b' _ c' 14 _::ic p _::R) ?_ (by repeat (first|exact bj.refl _|apply bj.cons_cons|apply bj.cons));exact yl (by simp) (hc [_,_] _ _ _ (h r1 r3))
def acJ[i:Lc (sT aL 14 l) L (p,items) f][j:XA (sT aL 14 l) (ic p) L (p,items) q F]{n:Nat}(hx:items[n]?=some y)(hl:items.length<1000000)(hv:q.vs.length<1000000)
 (h:∀r4 r1 r2,T W (Sep.pt r4 (aL y)::Sep.pt r2 [.i (n:Int)]::Sep.pt r1 [.p (some (ad l 0))]::F (p,items.set n x) {q with vs:=q.vs++[Fh r4 r1 r2]}) (K (.b true))):
 T W L (kO (ah l) (n:Int) (aL x) K):=by
 have bX:=(ao.1 hx).1;refine ET (P:=sT aL 14 l) (Q:=ic p) λR hc=>?_;refine so λb c=>?_;unfold kO
 repeat' first|apply ws;intros|apply wb|with_reducible refine Xg hx hl ?_|fail
 refine dL ⟨by omega,by omega⟩ λr hr=>?_;subst hr;rw[ak];refine dO rfl (rE j0 bX (iT _) ?_);apply ws;intros;refine xe (p:=p) hv rfl rfl ?_;apply ws;intros;rename_i r1 r2 r3 r4;refine T.sub (M:=[Sep.pt r4 _,Sep.pt r2 _,Sep.pt r1 _]++Sep.pt l _::own (ah r) _ c 14 _::ic p _::R) ?_ (by repeat (first|exact bj.refl _|apply bj.cons_cons|apply bj.cons));exact yl (by simp) (hc [_,_,_] _ _ _ (h r4 r1 r2))
def acK[i:Lc (sT aL 14 l) L (p,items) f](hl:items.length<1000000)(h:∀b c,T W (own b items.length c 14 (items.flatMap aL)::L) (K (.l b items.length c))):T W L (kP (ah l) K):=by
 have hL:f (p,items)=L:=i.same;refine ID (g:=aL) (e:=14) (l:=l) λb c R hc=>?_;unfold kP;apply ws;intros;refine iB (e:=14) ?_;refine se (b:=none) (l0:=([]:List bJ)) (l1:=items) j0 rfl (by omega) iT λb' c'=>?_;have:=hc [own b' items.length c' 14 (items.flatMap aL)] b items.length c items _ rfl (by rw[hL];exact h b' c');simpa using this
end
section
variable {W:World} {L R:LH} {K:VK} {X:WK} {l p:Nat} {items:List ch} {f:Nat×List ch->LH} {F:Nat×List ch->Core->LH} {q:Core} {x y:ch}
def PU[i:Lc (sT bF 33 l) L (p,items) f](h:T W L (K (.i (items.length:Int)))):T W L (gH (ah l) K):=by
 have hL:f (p,items)=L:=i.same;refine ID (g:=bF) (e:=33) (l:=l) λb c R hc=>?_;unfold gH;apply ws;intros;exact hc [] _ _ _ _ _ rfl (by rw[hL];exact h)
def W9{b:OA}{c:Nat}{v:Value}{n:Nat}{f1:LV->LH}{f2:HP->LH}[i:Lc (Sep.pt l) L [.l b items.length c,v] f1][j:u9 b items.length c L 33 (items.flatMap bF) f2](hx:items[n]?=some x)(hl:items.length<1000000)
 (h:T W L (K (.tuple ⟨[.agg ⟨bF x⟩,.b true]⟩))):T W L (dS (ah l) (n:Int) K):=by
 have bX:=(ao.1 hx).1;unfold dS;apply ws;intros;refine fW (by simp) ?_;unfold gH;apply ws;intros;unfold dS.j1;refine fW (by simp;omega) ?_;apply ws;intros;refine dL ⟨by omega,by omega⟩ λr hr=>?_;subst hr;rw[ak];refine gT xt hx ?_;apply ws;intros;exact T.dp h
def W8[i:Lc (sT bF 33 l) L (p,items) f]{n:Nat}(hx:items[n]?=some x)(hl:items.length<1000000)(h:T W L (K (.tuple ⟨[.agg ⟨bF x⟩,.b true]⟩))):T W L (dS (ah l) (n:Int) K):=by
 have hL:f (p,items)=L:=i.same;refine ID (g:=bF) (e:=33) (l:=l) λb c R hc=>?_;refine W9 hx hl ?_;exact hc [] _ _ _ _ _ rfl (by rw[hL];exact h)
abbrev wF(r1 r3:Nat):Value:=.func (.func N.de) ⟨[]⟩ ⟨[.p (some (ad r1 0)),.p (some (ad r3 0))]⟩
abbrev CD(r4 r1 r2:Nat):Value:=.func (.func N.dc) ⟨[]⟩ ⟨[.p (some (ad r4 0)),.p (some (ad r1 0)),.p (some (ad r2 0))]⟩
def Xa[i:Lc (sT bF 33 l) L (p,items) f][j:XA (sT bF 33 l) (ic p) L (p,items) q F](hl:items.length<1000000)(hv:q.vs.length<1000000)
 (h:∀r1 r3,T W (Sep.pt r3 [.i (items.length:Int)]::Sep.pt r1 [.p (some (ad l 0))]::F (p,items++[x]) {q with vs:=q.vs++[wF r1 r3]}) (K (.i (items.length:Int)))):
 T W L (kk (ah l) (bF x) K):=by
 refine ET (P:=sT bF 33 l) (Q:=ic p) λR hc=>?_;refine so λb c=>?_;unfold kk;apply ws;intros;refine jS (x:=x) (by simp) rfl rfl (by omega) (by omega) (ni _) λb' c'=>?_;apply ws;intros;refine xe (p:=p) hv rfl rfl ?_;apply ws;intros;rename_i r1 r2 r3 r4;refine T.sub (M:=[Sep.pt r3 _,Sep.pt r1 _]++Sep.pt l _::own b' _ c' 33 _::ic p _::R) ?_ (by repeat (first|exact bj.refl _|apply bj.cons_cons|apply bj.cons));exact yl (by simp) (hc [_,_] _ _ _ (h r1 r3))
def acD[i:Lc (sT bF 33 l) L (p,items) f][j:XA (sT bF 33 l) (ic p) L (p,items) q F]{n:Nat}(hx:items[n]?=some y)(hl:items.length<1000000)(hv:q.vs.length<1000000)
 (h:∀r4 r1 r2,T W (Sep.pt r4 (bF y)::Sep.pt r2 [.i (n:Int)]::Sep.pt r1 [.p (some (ad l 0))]::F (p,items.set n x) {q with vs:=q.vs++[CD r4 r1 r2]}) (K (.b true))):
 T W L (mD (ah l) (n:Int) (bF x) K):=by
 have bX:=(ao.1 hx).1;refine ET (P:=sT bF 33 l) (Q:=ic p) λR hc=>?_;refine so λb c=>?_;unfold mD
 repeat' first|apply ws;intros|apply wb|with_reducible refine W9 hx hl ?_|fail
 refine dL ⟨by omega,by omega⟩ λr hr=>?_;subst hr;rw[ak];refine dO rfl (rE xt bX (ni _) ?_);apply ws;intros;refine xe (p:=p) hv rfl rfl ?_;apply ws;intros;rename_i r1 r2 r3 r4;refine T.sub (M:=[Sep.pt r4 _,Sep.pt r2 _,Sep.pt r1 _]++Sep.pt l _::own (ah r) _ c 33 _::ic p _::R) ?_ (by repeat (first|exact bj.refl _|apply bj.cons_cons|apply bj.cons));exact yl (by simp) (hc [_,_,_] _ _ _ (h r4 r1 r2))
def acE[i:Lc (sT bF 33 l) L (p,items) f](hl:items.length<1000000)(h:∀b c,T W (own b items.length c 33 (items.flatMap bF)::L) (K (.l b items.length c))):T W L (mE (ah l) K):=by
 have hL:f (p,items)=L:=i.same;refine ID (g:=bF) (e:=33) (l:=l) λb c R hc=>?_;unfold mE;apply ws;intros;refine iB (e:=33) ?_;refine se (b:=none) (l0:=([]:List ch)) (l1:=items) xt rfl (by omega) ni λb' c'=>?_;have:=hc [own b' items.length c' 33 (items.flatMap bF)] b items.length c items _ rfl (by rw[hL];exact h b' c');simpa using this
end
def xd(bx:List (Nat×LV)):HP:=vW (bx.map λx=>Sep.pt x.1 x.2)
def St.UB{W w:World}{M R:LH}{A:HP}(h:St W w (vW M::R))(hm:A∈M):∃R',St W w (A::R')/\∀w',St W w' (A::R')->St W w' (vW M::R):=by
 obtain⟨k,hk⟩:=qM hm;have p:=tI hk;exact⟨M.eraseIdx k++R,(St.ta M R h).perm (p.append_right R),λw' h'=>St.rF M R (h'.perm (p.symm.append_right R))⟩
section
variable {W:World} {L:LH} {K:VK} {X:WK} {r o n:Nat} {cs xs:LV} {v:Value} {bx:List (Nat×LV)} {f:List (Nat×LV)->LH}
def Hb(hm:(r,cs)∈bx)[i:Lc xd L bx f]{w:World}(hs:St W w L):∃R,St W w (Sep.pt r cs::R):=by
 obtain⟨k,hk,_⟩:=i.at_;obtain⟨R,h1,_⟩:=St.UB (M:=bx.map λx=>Sep.pt x.1 x.2) (hs.focus hk) (cA.2 ⟨(r,cs),hm,rfl⟩);exact⟨R,h1⟩
def sQ[i:Lc xd L bx f](hm:(r,cs)∈bx)(hv:cs[o]?=some v)(h:T W L (K v)):T W L (ld ⟨r,o,none⟩ K):=λw hs=>by
 obtain⟨R,hr⟩:=Hb hm hs;exact db hr (k:=0) rfl hv (h w hs)
def FU[i:Lc xd L bx f](hm:(r,cs)∈bx)(hv:cs[o]?=some v)(h:T W L X):T W L (kp ⟨r,o,none⟩ [v] X):=λw hs=>by
 obtain⟨R,hr⟩:=Hb hm hs;exact kM hr (k:=0) rfl hv (h w hs)
def FP{K:LV->WK}[i:Lc xd L bx f](hm:(r,cs)∈bx)[s:Sub cs o n xs](h:T W L (K xs)):T W L (aJ ⟨r,o,none⟩ n K):=λw hs=>by
 obtain⟨R,hr⟩:=Hb hm hs;exact kx hr (k:=0) rfl s.is.1 s.is.2 (h w hs)
def fh[i:Lc xd L bx f](h:T W (f ((r,cs)::bx)) X):T W (Sep.pt r cs::L) X:=by
 obtain⟨R,h1,h2⟩:=i.perm;refine T.perm (λw hs=>?_) (h1.cons _);refine T.perm h (h2 _).symm w (St.rF (((r,cs)::bx).map λx=>Sep.pt x.1 x.2) R ?_);exact(St.ta (bx.map λx=>Sep.pt x.1 x.2) (Sep.pt r cs::R) (hs.perm (bZ.swap _ _ _))).perm iq
end
structure C where
 aB:List bJ
 ax:List ch
 pX:(Nat->Option Int)×Nat
 iF:(Nat->Option Int)×Nat
 dP:List oC
 ends:List Item
 clock:Int
 ay:Int
abbrev BT(a:Nat):Value:=.func (.func N.eO) ⟨[]⟩ ⟨[.p (some (ad a 0))]⟩
abbrev ZY(a a2:Nat):Value:=.func (.func N.eP) ⟨[]⟩ ⟨[.p (some (ad a 0)),.p (some (ad a2 0))]⟩
abbrev Ud(a a2:Nat):Value:=.func (.func N.eS) ⟨[]⟩ ⟨[.p (some (ad a 0)),.p (some (ad a2 0))]⟩
abbrev FK(a a2 a3:Nat):Value:=.func (.func N.eW) ⟨[]⟩ ⟨[.p (some (ad a 0)),.p (some (ad a2 0)),.p (some (ad a3 0))]⟩
abbrev Ob(a a2:Nat):Value:=.func (.func N.eV) ⟨[]⟩ ⟨[.p (some (ad a 0)),.p (some (ad a2 0))]⟩
abbrev aaP(a a2:Nat):Value:=.func (.func N.fx) ⟨[]⟩ ⟨[.p (some (ad a 0)),.p (some (ad a2 0))]⟩
inductive Ev(p la lk:Nat)(bx:List (Nat×LV)):Value->C->C->Prop
 |next {c:C} {a:Nat} {s:Int} (h1:(a,[.pointer (some (ad p 0))])∈bx) (hs:aa.wrap (c.ay-1)=s):Ev p la lk bx (BT a) c {c with ay:=s}
 |time {c:C} {a a2:Nat} {t:Int} (h1:(a,[.int .i64 t])∈bx) (h2:(a2,[.pointer (some (ad p 0))])∈bx):Ev p la lk bx (ZY a a2) c {c with clock:=t}
 |open_ {c:C} {a a2:Nat} {x:bJ} {m:(Nat->Option Int)×Nat} (h1:(a,[.pointer (some (ad p 0))])∈bx) (h2:(a2,aL x)∈bx) (hu:c.pX.2<=1000) (hi:(c.pX.1 x.id).isSome=true) (hm:(xW c.pX.1 x.id none,c.pX.2-1)=m):
  Ev p la lk bx (Ud a a2) c {c with pX:=m}
 |ZE {c:C} {a a2 n:Nat} (h1:(a,[.pointer (some (ad la 0))])∈bx) (h2:(a2,[.int .i64 (n:Int)])∈bx) (hn:n<=c.aB.length):Ev p la lk bx (CE a a2) c {c with aB:=c.aB.take n}
 |ZD {c:C} {a a2 n:Nat} (h1:(a,[.pointer (some (ad lk 0))])∈bx) (h2:(a2,[.int .i64 (n:Int)])∈bx) (hn:n<=c.ax.length):Ev p la lk bx (wF a a2) c {c with ax:=c.ax.take n}
 |XU {c:C} {a1 a2 a3 n:Nat} {x:bJ} (h1:(a1,aL x)∈bx) (h2:(a2,[.pointer (some (ad la 0))])∈bx) (h3:(a3,[.int .i64 (n:Int)])∈bx) (hn:n<c.aB.length):Ev p la lk bx (Fh a1 a2 a3) c {c with aB:=c.aB.set n x}
 |XT {c:C} {a1 a2 a3 n:Nat} {x:ch} (h1:(a1,bF x)∈bx) (h2:(a2,[.pointer (some (ad lk 0))])∈bx) (h3:(a3,[.int .i64 (n:Int)])∈bx) (hn:n<c.ax.length):Ev p la lk bx (CD a1 a2 a3) c {c with ax:=c.ax.set n x}
 |Q4 {c:C} {a a2 a3:Nat} {t:cM} {k:ch} {l0:List oC} {at_:Int} {m:(Nat->Option Int)×Nat} (h1:(a,[.pointer (some (ad p 0))])∈bx) (h2:(a2,aM t)∈bx) (h3:(a3,bF k)∈bx)
  (hu:c.iF.2<=1000) (hi:(c.iF.1 t.id).isSome=true) (hr:tv c.dP) (hl:c.dP.length<100000) (hs:c.dP=l0++[(k.move.ay,at_)]) (hm:(xW c.iF.1 t.id none,c.iF.2-1)=m):
  Ev p la lk bx (FK a a2 a3) c {c with iF:=m,dP:=l0}
 |Q3 {c:C} {a a2:Nat} {x:Item} {e':List Item} (h1:(a,[.pointer (some (ad p 0))])∈bx) (h2:(a2,gW x)∈bx) (hl:c.ends.length<10000) (he:(x::e').Perm c.ends) (hn:∀y∈e',y.ay≠x.ay):
  Ev p la lk bx (Ob a a2) c {c with ends:=e'}
 |end_ {c:C} {a a2:Nat} {x:Item} {e':List Item} (h1:(a,[.pointer (some (ad p 0))])∈bx) (h2:(a2,gW x)∈bx) (hl:c.ends.length<10000) (he:e'.Perm (c.ends++[x])):Ev p la lk bx (aaP a a2) c {c with ends:=e'}
def Ev.mono{p la lk:Nat}{bx oP:List (Nat×LV)}{v:Value}{c c':C}(h:Ev p la lk bx v c c')(hs:∀x∈bx,x∈oP):Ev p la lk oP v c c':=by
 cases h with
 |next h1 h2=>exact .next (hs _ h1) h2
 |time h1 h2=>exact .time (hs _ h1) (hs _ h2)
 |open_ h1 h2 h3 h4 h5=>exact .open_ (hs _ h1) (hs _ h2) h3 h4 h5
 |ZE h1 h2 h3=>exact .ZE (hs _ h1) (hs _ h2) h3
 |ZD h1 h2 h3=>exact .ZD (hs _ h1) (hs _ h2) h3
 |XU h1 h2 h3 h4=>exact .XU (hs _ h1) (hs _ h2) (hs _ h3) h4
 |XT h1 h2 h3 h4=>exact .XT (hs _ h1) (hs _ h2) (hs _ h3) h4
 |Q4 h1 h2 h3 h4 h5 h6 h7 h8 h9=>exact .Q4 (hs _ h1) (hs _ h2) (hs _ h3) h4 h5 h6 h7 h8 h9
 |Q3 h1 h2 h3 h4 h5=>exact .Q3 (hs _ h1) (hs _ h2) h3 h4 h5
 |end_ h1 h2 h3 h4=>exact .end_ (hs _ h1) (hs _ h2) h3 h4
def kE(p la lk:Nat)(bx:List (Nat×LV)):LV->List C->C->Prop
 |[],[],_=>True
 |v::vs,c'::hs,c=>Ev p la lk bx v c c'/\kE p la lk bx vs hs c'
 |_,_,_=>False
def kE.mono{p la lk:Nat}{bx oP:List (Nat×LV)}(hs:∀x∈bx,x∈oP):∀{vs:LV} {h:List C} {c:C},kE p la lk bx vs h c->kE p la lk oP vs h c
 |[],[],_,_=>trivial
 |v::vs,c'::h,c,hc=>⟨hc.1.mono hs,kE.mono hs hc.2⟩
def kE.len{p la lk:Nat}{bx:List (Nat×LV)}:∀{vs:LV} {h:List C} {c:C},kE p la lk bx vs h c->vs.length=h.length
 |[],[],_,_=>rfl
 |v::vs,c'::h,c,hc=>by simp[kE.len hc.2]
abbrev gP(la lk ti tn:Nat)(vs:LV)(c:C):Core:=⟨la,lk,ti,tn,vs.reverse,c.dP,c.ends,c.clock,c.ay⟩
def L1(p la lk ti tn:Nat)(vs:LV)(bx:List (Nat×LV))(c:C)(R:LH):LH:=
 ic p (gP la lk ti tn vs c)::sT aL 14 la (p,c.aB)::sT bF 33 lk (p,c.ax)::pF ti c.pX::pF tn c.iF::xd bx::R
section
variable {W:World} {R:LH} {K:VK} {X:WK} {p la lk ti tn:Nat} {vs:LV} {bx:List (Nat×LV)} {c c':C} {v:Value}
def aeZ:HF:=[(N.fx,fx.u),(N.eW,eW.u),(N.eV,eV.u),(N.eS,eS.u),(N.eP,eP.u),(N.eO,eO.u),(N.cI,cI.u),(N.cH,cH.u),(N.de,de.u),(N.dc,dc.u)]
def T.JD{q:Core}{e e':List Item}(he:e.Perm e')(h:T W (ic p {q with ends:=e'}::R) X):T W (ic p {q with ends:=e}::R) X:=
 JE λb1 c1 b2 c2 b3 c3 hp h1 h2=>Bx (q:={q with ends:=e'}) h1 (h2.trans he) h
def T.Ow{A B:HP}(h:T W (B::A::R) X):T W (A::B::R) X:=T.perm h (bZ.swap _ _ _)
def T.aaa{A B:HP}(h:T W (A::B::R) X):T W (B::A::R) X:=T.perm h (bZ.swap _ _ _)
def T.abg{A B D:HP}(h:T W (D::A::B::R) X):T W (A::B::D::R) X:=T.aac (R:=R) h
def T.Z'{A B D:HP}(h:T W (A::B::D::R) X):T W (D::A::B::R) X:=T.aab (R:=R) h
def Ix{x y:Item}{e' e2 e:List Item}(h1:(x::e').Perm e)(h2:(y::e2).Perm e)(hy:y.ay=x.ay)(hn:∀z∈e',z.ay≠x.ay):e2.Perm e':=by
 have:y∈x::e':=h1.mem_iff.2 (h2.mem_iff.1 (by simp));rcases kf.1 this with rfl|hm
 ·exact(List.perm_cons y).1 (h2.trans h1.symm)
 ·exact aQ hy (hn y hm)
def ac8(hc:Ev p la lk bx v c c')(h:T W (L1 p la lk ti tn vs bx c' R) (K (.tuple ⟨[]⟩))):T W (L1 p la lk ti tn vs bx c R) (yZ aeZ v [] K):=by
 unfold L1 at *;cases hc with
 |next h1 hs=>
  rename_i a s;show T W _ (eO (ad a 0) K);unfold eO
  repeat' first|apply ws;intros|apply wb|with_reducible first|refine sQ h1 rfl ?_|refine Oh ?_|fail
  rw[show aa.wrap ((gP la lk ti tn vs c).ay-1)=s from hs];exact h
 |time h1 h2=>
  rename_i a a2 t;show T W _ (eP (ad a 0) (ad a2 0) K);unfold eP
  repeat' first|apply ws;intros|apply wb|with_reducible first|refine sQ h2 rfl ?_|refine sQ h1 rfl ?_|refine Oi ?_|fail
  exact h
 |open_ h1 h2 h3 h4 h5=>
  rename_i a a2 x m;show T W _ (eS (ad a 0) (ad a2 0) K);unfold eS
  repeat' first|apply ws;intros|apply wb|with_reducible first|refine sQ h1 rfl ?_|refine FU h1 rfl ?_|fail
  refine FP h2 ?_;refine Xd h3 (λ_=>?_) (λhn=>by rw[hn] at h4;cases h4)
  repeat' first|apply ws;intros|apply wb|with_reducible refine FU h1 rfl ?_|fail
  rw[h5];exact h
 |ZE h1 h2 h3=>
  rename_i a a2 n;show T W _ (cI (ad a 0) (ad a2 0) K);refine T.Ow ?_;refine so λb cc=>?_;unfold cI
  repeat' first|apply ws;intros|apply wb|with_reducible first|refine sQ h1 rfl ?_|refine sQ h2 rfl ?_|fail
  refine rv (b:=b) λvX _=>?_;refine A4 (by omega) ?_;refine BW (b:=b) (i:=n) j0 (by omega) ?_;apply ws;intros;exact uX (g:=aL) (e:=14) (by rw[aD];omega) (T.aaa h)
 |ZD h1 h2 h3=>
  rename_i a a2 n;show T W _ (de (ad a 0) (ad a2 0) K);refine T.abg ?_;refine so λb cc=>?_;unfold de
  repeat' first|apply ws;intros|apply wb|with_reducible first|refine sQ h1 rfl ?_|refine sQ h2 rfl ?_|fail
  refine rv (b:=b) λvX _=>?_;refine A4 (by omega) ?_;refine BW (b:=b) (i:=n) xt (by omega) ?_;apply ws;intros;exact uX (g:=bF) (e:=33) (by rw[aD];omega) (T.Z' h)
 |XU h1 h2 h3 h4=>
  rename_i a1 a2 a3 n x;show T W _ (cH (ad a1 0) (ad a2 0) (ad a3 0) K);refine T.Ow ?_;refine so λb cc=>?_;unfold cH
  repeat' first|apply ws;intros|apply wb|with_reducible first|refine sQ h2 rfl ?_|refine sQ h3 rfl ?_|fail
  refine FP h1 ?_;refine dL ⟨by omega,by omega⟩ λr hr=>?_;subst hr;rw[ak];refine dO rfl (rE j0 h4 (iT _) ?_);exact uX (g:=aL) (e:=14) (by simp) (T.aaa h)
 |XT h1 h2 h3 h4=>
  rename_i a1 a2 a3 n x;show T W _ (dc (ad a1 0) (ad a2 0) (ad a3 0) K);refine T.abg ?_;refine so λb cc=>?_;unfold dc
  repeat' first|apply ws;intros|apply wb|with_reducible first|refine sQ h2 rfl ?_|refine sQ h3 rfl ?_|fail
  refine FP h1 ?_;refine dL ⟨by omega,by omega⟩ λr hr=>?_;subst hr;rw[ak];refine dO rfl (rE xt h4 (ni _) ?_);exact uX (g:=bF) (e:=33) (by simp) (T.Z' h)
 |Q4 h1 h2 h3 h4 h5 h6 h7 h8 h9=>
  rename_i a a2 a3 t k l0 at_ m;show T W _ (eW (ad a 0) (ad a2 0) (ad a3 0) K);unfold eW
  repeat' first|apply ws;intros|apply wb|with_reducible first|refine sQ h1 rfl ?_|refine FU h1 rfl ?_|fail
  refine FP h2 ?_;refine Xd h4 (λ_=>?_) (λhn=>by rw[hn] at h5;cases h5)
  repeat' first|apply ws;intros|apply wb|with_reducible first|refine sQ h1 rfl ?_|refine FU h1 rfl ?_|refine sQ h3 rfl ?_|fail
  simp only[ig,aC];refine Wl (p:=p) (q:=gP la lk ti tn vs c) h6 (by show c.dP.length<_;omega) h8 ?_
  repeat' first|apply ws;intros|apply wb|with_reducible refine FU h1 rfl ?_|fail
  rw[h9];exact h
 |Q3 h1 h2 h3 h4 h5=>
  rename_i a a2 x e';show T W _ (eV (ad a 0) (ad a2 0) K);unfold eV
  repeat' first|apply ws;intros|apply wb|with_reducible first|refine sQ h1 rfl ?_|refine sQ h2 rfl ?_|fail
  simp only[ig,aC];refine Nb (p:=p) (q:=gP la lk ti tn vs c) h3 (λy e2 hy hp=>?_) (λHC=>aQ rfl (HC x (h4.mem_iff.1 (by simp))))
  repeat' first|apply ws;intros|apply wb|with_reducible refine FU h1 rfl ?_|fail
  exact T.JD (Ix h4 hp hy h5) h
 |end_ h1 h2 h3 h4=>
  rename_i a a2 x e';show T W _ (fx (ad a 0) (ad a2 0) K);unfold fx
  repeat' first|apply ws;intros|apply wb|with_reducible refine sQ h1 rfl ?_|fail
  refine FP h2 ?_;simp only[ig,aC];refine KJ (p:=p) (q:=gP la lk ti tn vs c) h3 h4 ?_
  repeat' first|apply ws;intros|apply wb|with_reducible refine FU h1 rfl ?_|fail
  exact h
end
structure aik where
 la:Nat
 lk:Nat
 ti:Nat
 tn:Nat
def cP(p:Nat)(x:C×List C):HP:=
 TT λz:aik×LV×List (Nat×LV)=>EL (kE p z.1.la z.1.lk z.2.2 z.2.1 x.2 x.1) (vW (L1 p z.1.la z.1.lk z.1.ti z.1.tn z.2.1 z.2.2 x.1 []))
section
variable {W:World} {L R:LH} {K:VK} {X:WK} {p:Nat} {c:C} {hs:List C} {f:C×List C->LH}
def Wt(h:∀la lk ti tn vs bx,kE p la lk bx vs hs c->T W (ic p (gP la lk ti tn vs c)::sT aL 14 la (p,c.aB)::sT bF 33 lk (p,c.ax)::pF ti c.pX::pF tn c.iF::xd bx::R) X):T W (cP p (c,hs)::R) X:=λw hw=>by
 obtain⟨⟨⟨la,lk,ti,tn⟩,vs,bx⟩,hw⟩:=hw.ex;obtain⟨hc,hw⟩:=hw.and;exact h la lk ti tn vs bx hc w (St.ta _ _ hw)
def Fj{la lk ti tn:Nat}{vs:LV}{bx:List (Nat×LV)}(hc:kE p la lk bx vs hs c)(h:T W (cP p (c,hs)::R) X):
 T W (ic p (gP la lk ti tn vs c)::sT aL 14 la (p,c.aB)::sT bF 33 lk (p,c.ax)::pF ti c.pX::pF tn c.iF::xd bx::R) X:=λw hw=>
 h w (St.rh (⟨la,lk,ti,tn⟩,vs,bx) (St.and_intro hc (St.rF _ _ hw)))
def t_c[i:Lc (cP p) L (c,hs) f](h:∀la lk ti tn vs bx R,kE p la lk bx vs hs c->
 (∀M c' fM HJ oP Y,kE p la lk oP HJ fM c'->T W (M++f (c',fM)) Y->T W (M++ic p (gP la lk ti tn HJ c')::sT aL 14 la (p,c'.aB)::sT bF 33 lk (p,c'.ax)::pF ti c'.pX::pF tn c'.iF::xd oP::R) Y)->
 T W (ic p (gP la lk ti tn vs c)::sT aL 14 la (p,c.aB)::sT bF 33 lk (p,c.ax)::pF ti c.pX::pF tn c.iF::xd bx::R) X):T W L X:=
 ES (P:=cP p) λR qj=>Wt λla lk ti tn vs bx hc=>h la lk ti tn vs bx R hc λM c' fM HJ oP Y MP hy=>
  T.perm (Fj (R:=M++R) MP (T.perm (qj M (c',fM) Y hy) iq.symm)) (by
   have:=bp (l₁:=M) (l₂:=[ic p (gP la lk ti tn HJ c'),sT aL 14 la (p,c'.aB),sT bF 33 lk (p,c'.ax),pF ti c'.pX,pF tn c'.iF,xd oP])|>.append_right R
   simpa using this)
def CV{b:OA}{n c e i:Nat}{xs:LV}{f:HP->LH}[j:u9 b n c L e xs f](hi:i<=n)(h:T W (f (own b i c e (xs.take (i* e)))) X):T W L X:=λw hs=>by
 obtain⟨k,hk,e1⟩:=j.at_;refine h w ?_;rw[e1];exact St.rZ ((hs.focus hk).mono (Gp hi)) hk
def Ul{r n c e o:Nat}{xs:LV}{v:Value}{f:HP->LH}[j:u9 (ah r) n c L e xs f](hv:xs[o]?=some v)(h:T W L (K v)):T W L (ld ⟨r,o,none⟩ K):=λw hs=>by
 obtain⟨k,hk,_⟩:=j.at_;exact Bj hs hk hv (h w hs)
def Uo{b:OA}{n c e:Nat}{xs ys:LV}{f:HP->LH}[j:u9 b n c L e xs f](hl:ys.length=xs.length)(h1:∀v∈ys,v.oneCell'=true)(h:∀zs,T W (f (own b n c e zs)) X):T W L (Zo ys b n X):=λw hs=>by
 obtain⟨k,hk,e1⟩:=j.at_;refine⟨λ_=>h xs w (by rw[e1,nT hk];exact hs),λa ha _=>?_⟩;obtain⟨hlx,h0|⟨r,sp,hb,vX,CO,hO⟩⟩:=hs.oN hk
 ·rw[h0.1] at ha;cases ha
 ·rw[hb] at ha;cases ha
  obtain⟨hc,xf⟩:=St.A5 ys 0 0 hO (kr hk) (by simp;omega) h1;refine⟨hc,h ys _ ?_⟩;rw[jM,eL] at xf;have e2:over (xs++sp) 0 ys=ys++sp:=by
   unfold over;rw[ox,cw,aC,hl,List.drop_left' rfl]
  rw[e2] at xf;rw[e1,hb];exact St.C9 ((ao.1 hk).1) (by rw[hl];exact hlx) vX CO xf
def vO(n:Nat):C->List C->C×List C
 |c,[]=>(c,[])
 |c,c'::hs=>if n<=hs.length then vO n c' hs else(c,c'::hs)
def Er{n:Nat}(hn:hs.length<=n):vO n c hs=(c,hs):=by
 cases hs with
 |nil=>rfl
 |cons c' hs=>unfold vO;rw[ag (by simp at hn;omega)]
def Tk{q:Core}{w:World}(h:St W w (ic p q::R)):∃b c,w.cell? ⟨p,0,none⟩=some (.l b q.vs.length c):=by
 obtain⟨⟨⟨b1,c1⟩,⟨b2,c2⟩,⟨b3,c3⟩,hp⟩,hs⟩:=h.ex;obtain⟨_,hs⟩:=hs.and;have:=(St.ta _ _ hs).cell (k:=0) (o:=0) rfl;exact⟨b1,c1,this.1⟩
def muB(p:Nat)(w:World):Nat:=match w.cell? ⟨p,0,none⟩ with|some (.slice _ m _)=>m|_=>0
def Ve{q:Core}{w:World}(h:St W w (ic p q::R)):muB p w=q.vs.length:=by
 obtain⟨b,cc,e⟩:=Tk h;unfold muB;rw[e]
def acI[i:Lc (cP p) L (c,hs) f]{n:Nat}(hl:hs.length<1000000)(h:T W (f (vO n c hs)) (K (.tuple ⟨[]⟩))):T W L (tA (ah p) (n:Int) K):=by
 refine t_c (p:=p) λla lk ti tn vs bx R hc qj=>?_;unfold tA;refine zv ?_;intro w hw;refine⟨λa w=>∃vs fM c',a=[]/\fM.length<1000000/\kE p la lk bx vs fM c'/\vO n c' fM=vO n c hs/\St W w (L1 p la lk ti tn vs bx c' R),
  λ_ w=>muB p w,⟨vs,hs,c,rfl,hl,hc,rfl,hw⟩,?_⟩
 rintro w2 ⟨HJ,fM,c',-,NV,MP,hb,hw⟩;have hmu:muB p w2=HJ.length:=by
  have:=Ve (q:=gP la lk ti tn HJ c') hw;rw[this];simp
 refine T.at ?_ hw;have hlen:=MP.len;have YP:max2 (n:Int) 0=n:=by unfold max2;split<;>omega
 rw[YP];unfold L1;refine qQ (p:=p) λb1 c1 b2 c2 b3 c3 hp R2 g1 g2 VI=>?_;unfold jz;have hrl:(gP la lk ti tn HJ c').vs.length=HJ.length:=jC;apply ws;intros;apply ga<;>intro g
 ·have Rd:n<HJ.length:=by omega
  match HJ,fM,MP,hlen,NV,Rd with
  |v::zo,c2'::hO,MP,hlen,NV,Rd=>
  simp only[bE] at Rd NV hlen;have hrl:(gP la lk ti tn (v::zo) c').vs.length=zo.length+1:=by show(v::zo).reverse.length=_;simp
  have e1:aa.wrap (((gP la lk ti tn (v::zo) c').vs.length:Int) -1)=(zo.length:Int):=by rw[aW (by omega)];omega
  apply ws;intros;rw[e1];refine dL ⟨by omega,by omega⟩ λr hr=>?_;subst hr;rw[ak,mz];refine Ul (v:=v) (by simp) ?_;refine VI [] (gP la lk ti tn (v::zo) c') _ _ _ _ _ _ _ _ g1 g2 ?_;refine ac8 (c':=c2') (vs:=v::zo) MP.1 ?_;unfold L1;refine qQ (p:=p) λb1 c1 b2 c2 b3 c3 hp R2 g1 g2 afM=>?_;unfold jz;apply ws;intros;refine rv (b:=b1) λvX _=>?_;have vX:(gP la lk ti tn (v::zo) c').vs.length<=c1:=vX;refine A4 (by omega) ?_;refine CV (b:=b1) (i:=zo.length) (show zo.length<=(gP la lk ti tn (v::zo) c').vs.length by omega) ?_;apply ws;intros;have et:List.take (zo.length* 1) (v::zo).reverse=zo.reverse:=by rw[mz,yP,<-jC,DG]
  rw[et];have:=afM [] (gP la lk ti tn zo c2') b1 c1 b2 c2 b3 c3 hp (λw3=>(∃vs fM c',([]:LV)=[]/\fM.length<1000000/\kE p la lk bx vs fM c'/\vO n c' fM=vO n c hs/\St W w3 (L1 p la lk ti tn vs bx c' R))/\muB p w3<muB p w2) g1 g2 ?_
  ·unfold jz at this;rw[show(gP la lk ti tn zo c2').vs.length=zo.length from jC] at this;exact this
  ·intro w3 h3;refine⟨⟨zo,hO,c2',rfl,by omega,MP.2,?_,h3⟩,?_⟩
   ·rw[<-hb]
    conv=>rhs;unfold vO
    rw[ai (by omega)]
   ·have:=Ve (q:=gP la lk ti tn zo c2') h3;rw[this,hmu];simp
 ·have hle:HJ.length<=n:=by omega
  rw[Er (by omega)] at hb;rw[<-hb] at h;refine VI [] (gP la lk ti tn HJ c') _ _ _ _ _ _ _ _ g1 g2 ?_;exact qj [] c' fM HJ bx _ MP h
def ZO[i:Lc (cP p) L (c,hs) f](hl:hs.length<1000000)(h:T W (f (c,[])) (K (.tuple ⟨[]⟩))):T W L (na (ah p) K):=by
 refine t_c (p:=p) λla lk ti tn vs bx R hc qj=>?_;have hlen:=hc.len;refine qQ (p:=p) λb1 c1 b2 c2 b3 c3 hp R2 g1 g2 VI=>?_;unfold na jz;apply ws;intros;refine rv (b:=b1) λvX Jk=>?_;refine Uo (b:=b1) (by rw[oI,Jk];simp) (λv hv=>?_) λzs=>?_
 ·simp only[Builtin.zeroCells,Array.toList_map,cA] at hv;obtain⟨j,_,rfl⟩:=hv;have:(⟨[Value.nilFunc]⟩:Array Value)[j%(⟨[Value.nilFunc]⟩:Array Value).size]! =.nilFunc:=by
   have:j%(⟨[Value.nilFunc]⟩:Array Value).size=0:=Nat.mod_one j;rw[this];rfl
  rw[this];rfl
 apply ws;intros;refine A4 (i:=0) (by omega) ?_;refine CV (b:=b1) (i:=0) (by omega) ?_;apply ws;intros;rw[Nat.zero_mul,ox];refine VI [] (gP la lk ti tn [] c) b1 c1 b2 c2 b3 c3 hp _ g1 g2 ?_;exact qj [] c [] [] bx _ trivial h
end
end Go.Up
namespace Go.Md
structure bK(m:aA):Prop where
 zero:∀a∈m.cE,a.dp=0/\a.dq=0/\a.cp=0/\a.cq=0/\0<=a.aq/\a.aq<8
 ids:(m.cE.map (·.id)).Nodup
 og:m.cE.length<=32
 names:(m.ax.map (·.move.id)).Nodup
 vB:∀k∈m.ax,0<=k.fate/\k.fate<=4/\(has k.move.aq 2↔1<=k.fate)
 wg:∀k∈m.ax,k.move.bw≠k.move.aP/\k.move.bw∈m.cE.map (·.id)/\k.move.aP∈m.cE.map (·.id)
 some_:m.ax.length<=96
 yG:∀a∈m.cE,S (uC a.id) m.ax+S (uj a.id) m.ax<bG
 uO:∀a∈m.cE,S (uE a.id) m.ax+S (uk a.id) m.ax<bG
 wE:∀a∈m.cE,S (u1 a.id) m.ax<=1
structure pC(b:aZ)(m:aA):Prop where
 aB:b.aB=m.cE.map (full m.ax)
 ax:b.ax=m.ax
 clock:b.clock=m.clock
 ay:b.ay=m.ay
def bK.full{m:aA}(h:bK m){a:bJ}(ha:a∈m.cE):m.full a=Md.full m.ax a:=by
 obtain⟨h1,h2,h3,h4,_⟩:=h.zero a ha;have d:=h.yG a ha;have c:=h.uO a ha;exact Ph a m.ax (by omega) (by omega) (by omega) (by omega)
def xC{l:List bJ}{id:Nat}{a:bJ}(h:l.find? (λa=>a.id=id)=some a):a∈l/\a.id=id:=
 ⟨nA h,by simpa using List.find?_some h⟩
def pC.find{b:aZ}{m:aA}(h:pC b m)(id:Nat):b.find id=(m.find id).map (Md.full m.ax):=by
 unfold aZ.find aA.find;rw[h.aB,List.find?_map]
 rfl
def Jt(l:List ch)(k:ch)(a:bJ):full (l++[k]) a=full [k] (full l a):=(Ei a l [k]).symm
def Cw(k:ch)(a:bJ):full [k] a={a with dp:=a.dp+uC a.id k,dq:=a.dq+uj a.id k,cp:=a.cp+uE a.id k,cq:=a.cq+uk a.id k,aq:=if kQ a.id k then a.aq%8+8 else a.aq}:=by
 unfold full;simp only[pY,y3,eL]
 congr 1
 unfold u1;by_cases h:kQ a.id k
 ·rw[ai h,ai h,ag (by omega)]
 ·rw[ag h,ag h,ai rfl]
def tr(t b:cM):tt t b≠0:=by unfold tt;split<;>decide
def wo{t:cM}{named:Option ch}{d c:Option bJ}{many:Nat}(h:(jU t named d c many).1=0):
 ∃d' c',d=some d'/\c=some c'/\named=none/\nG t=0/\ ¬ke t.aq/\d'.ba=c'.ba/\d'.aq<8/\c'.aq<8/\many<96/\
  d'.dp+d'.dq+(jU t named d c many).2<bG/\c'.cp+c'.cq+(jU t named d c many).2<bG/\
  ¬(has d'.aq 2/\iR d' true<(jU t named d c many).2)/\ ¬(has c'.aq 4/\iR c' false<(jU t named d c many).2):=by
 unfold jU at h⊢;by_cases h1:nG t≠0
 ·rw[ai h1] at h;exact aQ h h1
 rw[ag h1] at h⊢;by_cases h2:ke t.aq
 ·rw[ai h2] at h;exact aQ h (by decide)
 rw[ag h2] at h⊢;cases named with
 |some k=>exact aQ h (tr t k.asked)
 |none=>
  cases d with
  |none=>exact aQ h (show ¬(19:Int)=0 by decide)
  |some d=>
   cases c with
   |none=>exact aQ h (show ¬(20:Int)=0 by decide)
   |some c=>
    dsimp only at h⊢;by_cases h3:d.ba≠c.ba
    ·rw[ai h3] at h;exact aQ h (by decide)
    rw[ag h3] at h⊢;by_cases h4:d.ba≠t.ba
    ·rw[ai h4] at h;exact aQ h (by decide)
    rw[ag h4] at h⊢;by_cases h5:8<=d.aq
    ·rw[ai h5] at h;exact aQ h (by decide)
    rw[ag h5] at h⊢;by_cases h6:8<=c.aq
    ·rw[ai h6] at h;exact aQ h (by decide)
    rw[ag h6] at h⊢;by_cases h7:96<=many
    ·rw[ai h7] at h;exact aQ h (by decide)
    rw[ag h7] at h⊢;by_cases h8:(dh t d c).2≠0
    ·rw[ai h8] at h;exact aQ h h8
    rw[ag h8] at h⊢;by_cases h9:(more d true (dh t d c).1 (decide (has t.aq 2))).2≠0
    ·rw[ai h9] at h;exact aQ h h9
    rw[ag h9] at h⊢;by_cases h10:(more c false (dh t d c).1 (decide (has t.aq 2))).2≠0
    ·rw[ai h10] at h;exact aQ h h10
    rw[ag h10];dsimp only;refine⟨d,c,rfl,rfl,rfl,bm.1 h1,h2,bm.1 h3,by omega,by omega,by omega,?_,?_,?_,?_⟩
    ·by_cases hh:bG<=d.dp+d.dq+(dh t d c).1
     ·exfalso;apply h9;unfold more;rw[ai rfl,ai hh];exact(show(32:Int)≠0 by decide)
     ·omega
    ·by_cases hh:bG<=c.cp+c.cq+(dh t d c).1
     ·exfalso;apply h10;unfold more;rw[ag cN,ai hh];exact(show(32:Int)≠0 by decide)
     ·omega
    ·intro hh;apply h9;unfold more;rw[ai rfl];by_cases h0:bG<=d.dp+d.dq+(dh t d c).1
     ·rw[ai h0];exact(show(32:Int)≠0 by decide)
     ·rw[ag h0,ai hh];exact(show(33:Int)≠0 by decide)
    ·intro hh;apply h10;unfold more;rw[ag cN];by_cases h0:bG<=c.cp+c.cq+(dh t d c).1
     ·rw[ai h0];exact(show(32:Int)≠0 by decide)
     ·rw[ag h0,ai hh];exact(show(34:Int)≠0 by decide)
def pw{l:List bJ}(hn:(l.map (·.id)).Nodup){a:bJ}(ha:a∈l):l.find? (λx=>x.id=a.id)=some a:=by
 induction l with
 |nil=>simp at ha
 |cons x l ih=>
  simp only[cW,List.nodup_cons] at hn;rcases kf.1 ha with rfl|ha
  ·simp
  ·rw[List.find?_cons];by_cases hx:x.id=a.id
   ·exact aQ (cA.2 ⟨a,ha,hx.symm⟩) hn.1
   ·simp only[hx,decide_false];exact ih hn.2 ha
def Pf{a:bJ}{k:ch}(h1:k.move.bw≠a.id)(h2:k.move.aP≠a.id):full [k] a=a:=by
 rw[Cw];unfold uC uj uE uk kQ;simp[h1,h2]
def E2(a:bJ)(b:Bool)(n:Nat)(p:Bool):(more a b n p).1.id=a.id/\(more a b n p).1.ay=a.ay:=by
 unfold more;split<;>split<;>(try exact⟨rfl,rfl⟩)<;>split<;>(try exact⟨rfl,rfl⟩)<;>split<;>exact⟨rfl,rfl⟩
def CC(a:bJ)(yes:Prop)[Decidable yes]:(close a yes).id=a.id/\(close a yes).ay=a.ay:=by unfold close;split<;>exact⟨rfl,rfl⟩
def OQ{d c x:bJ}{t:cM}{n:Nat}{st ck:Int}(hdc:t.bw≠t.aP)(hd:d.id=t.bw)(hc:c.id=t.aP)(rT: ¬ke t.aq)(Xm:d.dp+d.dq+n<bG)(hsc:c.cp+c.cq+n<bG)(hxd:x.id=t.bw->x=d)(hxc:x.id=t.aP->x=c)
 (E9: ¬(has d.aq 2/\iR d true<n))(vX: ¬(has c.aq 4/\iR c false<n))(q1:has t.aq 64->has t.aq 2)(q2:has t.aq 128->has t.aq 2):
 (λy:bJ=>if y.id=(close (more c false n (decide (has t.aq 2))).1 (has t.aq 128)).id then{close (more c false n (decide (has t.aq 2))).1 (has t.aq 128) with ay:=y.ay} else y)
  ((λy:bJ=>if y.id=(close (more d true n (decide (has t.aq 2))).1 (has t.aq 64)).id then{close (more d true n (decide (has t.aq 2))).1 (has t.aq 64) with ay:=y.ay} else y) x)
 =full [⟨t,{t with aU:=n,ay:=st,jh:=ck},waits t⟩] x:=by
 have i1:(close (more d true n (decide (has t.aq 2))).1 (has t.aq 64)).id=t.bw:=by rw[(CC _ _).1,(E2 _ _ _ _).1,hd]
 have i2:(close (more c false n (decide (has t.aq 2))).1 (has t.aq 128)).id=t.aP:=by rw[(CC _ _).1,(E2 _ _ _ _).1,hc]
 have s1:(close (more d true n (decide (has t.aq 2))).1 (has t.aq 64)).ay=d.ay:=by rw[(CC _ _).2,(E2 _ _ _ _).2]
 have s2:(close (more c false n (decide (has t.aq 2))).1 (has t.aq 128)).ay=c.ay:=by rw[(CC _ _).2,(E2 _ _ _ _).2]
 have e4: ¬has t.aq 4:=λh=>rT (.inl h);have e8: ¬has t.aq 8:=λh=>rT (.inr h);dsimp only;rw[i1,i2];by_cases h1:x.id=t.bw
 ·have hx:=hxd h1;subst hx;rw[ai h1];rw[ag (show ¬t.bw=t.aP from hdc),Cw];unfold uC uj uE uk kQ jo waits close more;have kN: ¬t.aP=x.id:=λh=>hdc (by rw[h,h1]);simp only[if_true,ag (show ¬bG<=x.dp+x.dq+n by omega),ag E9];by_cases hw:has t.aq 2<;>by_cases qj:has t.aq 64<;>(try exact aQ (q1 qj) hw)<;>simp[hw,qj,e8,h1.symm,kN]
 ·rw[ag h1];by_cases h2:x.id=t.aP
  ·have hx:=hxc h2;subst hx;rw[ai h2,Cw];unfold uC uj uE uk kQ jo waits close more;have kN: ¬t.bw=x.id:=λh=>h1 h.symm;simp only[cJ,if_false,ag (show ¬bG<=x.cp+x.cq+n by omega),ag vX];by_cases hw:has t.aq 2<;>by_cases qj:has t.aq 128<;>(try exact aQ (q2 qj) hw)<;>simp[hw,qj,e8,h2.symm,kN]
  ·rw[ag h2,Pf (λh=>h1 h.symm) (λh=>h2 h.symm)]
def JF{t:cM}(h:nG t=0)(he: ¬ke t.aq):t.bw≠t.aP/\0<=t.aq/\t.aq<=255/\(has t.aq 64->has t.aq 2)/\(has t.aq 128->has t.aq 2):=by
 unfold nG at h;by_cases h1:t.aq<0\/255<t.aq
 ·rw[ai h1] at h;exact aQ h (by decide)
 rw[ag h1] at h;have ht:jy t.aq:=by
  by_cases h2:t.id=0
  ·rw[ai h2] at h;exact aQ h (by decide)
  rw[ag h2] at h;by_cases h3:t.id=bG-1
  ·rw[ai h3] at h;exact aQ h (by decide)
  rw[ag h3] at h;by_cases h4: ¬jy t.aq
  ·rw[ai h4] at h;exact aQ h (by decide)
  exact bm.1 h4
 have Y1:∀b:Int,(b=64\/b=128)->has t.aq b->has t.aq 2:=λb hb hh=>by
  rcases ht.2.2 with h0|h0
  ·unfold has at hh;rcases hb with rfl|rfl<;>omega
  ·exact h0
 refine⟨λhdc=>?_,by omega,by omega,Y1 64 (.inl rfl),Y1 128 (.inr rfl)⟩;by_cases h2:t.id=0
 ·rw[ai h2] at h;exact aQ h (by decide)
 rw[ag h2] at h;by_cases h3:t.id=bG-1
 ·rw[ai h3] at h;exact aQ h (by decide)
 rw[ag h3] at h;by_cases h4: ¬jy t.aq
 ·rw[ai h4] at h;exact aQ h (by decide)
 rw[ag h4] at h;by_cases h5:t.ay≠0\/t.jh≠0
 ·rw[ai h5] at h;exact aQ h (by decide)
 rw[ag h5] at h;by_cases h6:t.cn<0\/1073741824<t.cn\/0<t.cn/\ ¬has t.aq 2
 ·rw[ai h6] at h;exact aQ h (by decide)
 rw[ag h6,ag he] at h;by_cases h7:t.bw=0
 ·rw[ai h7] at h;exact aQ h (by decide)
 rw[ag h7] at h;by_cases h8:t.aP=0
 ·rw[ai h8] at h;exact aQ h (by decide)
 rw[ag h8,ai hdc] at h;exact aQ h (by decide)
def GR{l:List ch}{a:bJ}(h0:0<=a.aq)(h:(full l a).aq<8):S (u1 a.id) l=0:=by
 by_cases hs:S (u1 a.id) l=0
 ·exact hs
 ·exfalso;have e:(full l a).aq=a.aq%8+8:=ag hs;rw[e] at h;omega
def pC.Kj{b:aZ}{m:aA}(h:pC b m)(id:Nat):b.named id=m.named id:=by unfold aZ.named aA.named;rw[h.ax]
def bK.VU{m:aA}(h:bK m)(id:Nat):(m.find id).map m.full=(m.find id).map (Md.full m.ax):=by
 cases hf:m.find id with
 |none=>rfl
 |some a=>rw[fw,fw,h.full (xC hf).1]
def bK.one{m:aA}(h:bK m){id:Nat}{d:bJ}(hf:(m.find id).map (Md.full m.ax)=some d){a:bJ}(ha:a∈m.cE)(NY:a.id=id):Md.full m.ax a=d:=by
 have:=pw h.ids ha;rw[NY] at this;unfold aA.find at hf;rw[this] at hf;simpa using hf
def pC.move{b:aZ}{m:aA}{t:cM}(hs:pC b m)(hg:bK m):(b.move t).1=(m.move t).1/\pC (b.move t).2 (m.move t).2/\bK (m.move t).2:=by
 have e:jU t (b.named t.id) (b.find t.bw) (b.find t.aP) b.ax.length=jU t (m.named t.id) ((m.find t.bw).map m.full) ((m.find t.aP).map m.full) m.ax.length:=by
  rw[hs.Kj,hs.find,hs.find,hg.VU,hg.VU,hs.ax]
 unfold aZ.move aA.move;dsimp only;rw[e];by_cases hr:(jU t (m.named t.id) ((m.find t.bw).map m.full) ((m.find t.aP).map m.full) m.ax.length).1≠0
 ·rw[ai hr,ai hr];exact⟨rfl,hs,hg⟩
 rw[ag hr,ag hr];have D9:=bm.1 hr;obtain⟨d,c,hd,hc,hn,uu,rT,hlg,hfd,hfc,xw,Xm,hsc,E9,vX⟩:=wo D9;generalize (jU t (m.named t.id) ((m.find t.bw).map m.full) ((m.find t.aP).map m.full) m.ax.length).2=n at *;obtain⟨hdc,aiQ,aiP,hq1,YI⟩:=JF uu rT;rw[hg.VU] at hd hc;have hbd:b.find t.bw=some d:=by rw[hs.find];exact hd
 have hbc:b.find t.aP=some c:=by rw[hs.find];exact hc
 obtain⟨d0,hd0,rfl⟩:=Option.map_eq_some_iff.1 hd;obtain⟨c0,hc0,rfl⟩:=Option.map_eq_some_iff.1 hc;obtain⟨Fc,EI⟩:=xC hd0;obtain⟨TQ,Ef⟩:=xC hc0;refine⟨rfl,⟨?_,?_,?_,?_⟩,?_⟩
 ·unfold aZ.D0;rw[hbd,hbc];show((b.aB.map _).map _)=m.cE.map (Md.full (m.ax++[_]));rw[hs.aB,pD,pD];apply eg;intro a ha;rw[Jt];exact OQ (d:=Md.full m.ax d0) (c:=Md.full m.ax c0) (x:=Md.full m.ax a) hdc EI Ef rT Xm hsc (λhx=>hg.one hd ha hx) (λhx=>hg.one hc ha hx) E9 vX hq1 YI
 ·unfold aZ.D0;rw[hbd,hbc];show b.ax++[(⟨t,{{t with aU:=n} with ay:=b.ay+1,jh:=b.clock},waits t⟩:ch)]=m.ax++[_];rw[hs.ax,hs.ay,hs.clock]
 ·unfold aZ.D0;rw[hbd,hbc];exact hs.clock
 ·unfold aZ.D0;rw[hbd,hbc];show b.ay+1=m.ay+1;rw[hs.ay]
 ·have hdz:=hg.zero d0 Fc;have hcz:=hg.zero c0 TQ;have hle:∀id(k:ch),k.move.bw=t.bw->k.move.aU=n->k.move.aq=t.aq->k.fate=waits t->uC id k+uj id k<=if t.bw=id then n else 0:=λid k e1 e2 e3 e4=>by
   have hx:k.fate=1-> ¬jo k:=λh1 h2=>by
    rw[e4] at h1;unfold waits at h1;by_cases h3:has t.aq 2
    ·exact h2.1 (by rw[e3];exact h3)
    ·rw[ag h3] at h1;exact aQ h1 (by decide)
   unfold uC uj;rw[e1,e2];by_cases h1:t.bw=id
   ·by_cases h2:k.fate=1
    ·simp[h1,h2,hx h2]
    ·simp[h1,h2];split<;>omega
   ·simp[h1]
  have afu:∀id(k:ch),k.move.aP=t.aP->k.move.aU=n->k.move.aq=t.aq->k.fate=waits t->uE id k+uk id k<=if t.aP=id then n else 0:=λid k e1 e2 e3 e4=>by
   have hx:k.fate=1-> ¬jo k:=λh1 h2=>by
    rw[e4] at h1;unfold waits at h1;by_cases h3:has t.aq 2
    ·exact h2.1 (by rw[e3];exact h3)
    ·rw[ag h3] at h1;exact aQ h1 (by decide)
   unfold uE uk;rw[e1,e2];by_cases h1:t.aP=id
   ·by_cases h2:k.fate=1
    ·simp[h1,h2,hx h2]
    ·simp[h1,h2];split<;>omega
   ·simp[h1]
  refine⟨hg.zero,hg.ids,hg.og,?_,λk hk=>?_,λk hk=>?_,?_,λa ha=>?_,λa ha=>?_,λa ha=>?_⟩
  ·show((m.ax++[_]).map _).Nodup;rw[cY,List.nodup_append];refine⟨hg.names,by simp,λx hx y hy=>?_⟩;simp only[cW,uS,DH] at hy;obtain⟨k,hk,rfl⟩:=cA.1 hx;intro hxy;unfold aA.named at hn;have:=nJ.1 hn k hk;simp[hxy,hy] at this
  ·rcases dF.1 hk with hk|hk
   ·exact hg.vB k hk
   ·simp only[DH] at hk;subst hk;unfold waits;by_cases h2:has t.aq 2
    ·simp only[ai h2];exact⟨by decide,by decide,by simp[h2]⟩
    ·simp only[ag h2];exact⟨by decide,by decide,by simp[h2]⟩
  ·rcases dF.1 hk with hk|hk
   ·exact hg.wg k hk
   ·simp only[DH] at hk;subst hk;exact⟨hdc,cA.2 ⟨d0,Fc,EI⟩,cA.2 ⟨c0,TQ,Ef⟩⟩
  ·show(m.ax++[_]).length<=96;rw[aw,qg];omega
  ·show S (uC a.id) (m.ax++[_])+S (uj a.id) (m.ax++[_])<bG;rw[uz,uz];generalize hK:ch.mk t _ (waits t)=K;have h1:=hle a.id K (by rw[<-hK]) (by rw[<-hK]) (by rw[<-hK]) (by rw[<-hK]);have h2:=hg.yG a ha;by_cases had:t.bw=a.id
   ·rw[ai had] at h1;have h3:=hg.one hd ha had.symm;rw[<-h3] at Xm;have h4:=hg.zero a ha;have e1:(Md.full m.ax a).dp=a.dp+S (uC a.id) m.ax:=rfl;have e2:(Md.full m.ax a).dq=a.dq+S (uj a.id) m.ax:=rfl;omega
   ·rw[ag had] at h1;omega
  ·show S (uE a.id) (m.ax++[_])+S (uk a.id) (m.ax++[_])<bG;rw[uz,uz];generalize hK:ch.mk t _ (waits t)=K;have h1:=afu a.id K (by rw[<-hK]) (by rw[<-hK]) (by rw[<-hK]) (by rw[<-hK]);have h2:=hg.uO a ha;by_cases had:t.aP=a.id
   ·rw[ai had] at h1;have h3:=hg.one hc ha had.symm;rw[<-h3] at hsc;have e1:(Md.full m.ax a).cp=a.cp+S (uE a.id) m.ax:=rfl;have e2:(Md.full m.ax a).cq=a.cq+S (uk a.id) m.ax:=rfl;omega
   ·rw[ag had] at h1;omega
  ·show S (u1 a.id) (m.ax++[_])<=1;rw[uz];have h2:=hg.wE a ha;generalize hK:ch.mk t _ (waits t)=K;by_cases qj:kQ a.id K
   ·have h3:u1 a.id K=1:=ai qj;have h0:S (u1 a.id) m.ax=0:=by
     rcases qj.1 with⟨_,hh⟩|⟨_,hh⟩
     ·rw[<-hK] at hh;have:=hg.one hd ha (show a.id=t.bw from hh.symm);rw[<-this] at hfd;exact GR (hg.zero a ha).2.2.2.2.1 hfd
     ·rw[<-hK] at hh;have:=hg.one hc ha (show a.id=t.aP from hh.symm);rw[<-this] at hfc;exact GR (hg.zero a ha).2.2.2.2.1 hfc
    omega
   ·have h3:u1 a.id K=0:=ag qj;omega
def modify_eq{α:Type}(f:α->α):∀(l:List α)(i:Nat)(h:i<l.length),l.modify i f=l.set i (f l[i])
 |[],i,h=>by simp at h
 |x::l,0,h=>by simp[List.modify]
 |x::l,i+1,h=>by
  have:=modify_eq f l i (by simpa using h);simp[List.modify_succ_cons,this]
def ended{l:List ch}{i:Nat}(hi:i<l.length){f:Int}(h1:l[i].fate=1)(hw:has l[i].move.aq 2)(hf:f=2\/f=3\/f=4)(id:Nat):
 S (uC id) (l.set i {l[i] with fate:=f})+(if l[i].move.bw=id then l[i].move.aU else 0)=S (uC id) l/\
 S (uE id) (l.set i {l[i] with fate:=f})+(if l[i].move.aP=id then l[i].move.aU else 0)=S (uE id) l/\
 S (uj id) (l.set i {l[i] with fate:=f})=S (uj id) l/\S (uk id) (l.set i {l[i] with fate:=f})=S (uk id) l/\
 S (u1 id) (l.set i {l[i] with fate:=f})+(if f≠2/\(has l[i].move.aq 64/\l[i].move.bw=id\/has l[i].move.aq 128/\l[i].move.aP=id) then 1 else 0)=S (u1 id) l:=by
 have a1:=JM (uC id) l i {l[i] with fate:=f} hi;have a2:=JM (uE id) l i {l[i] with fate:=f} hi;have a3:=JM (uj id) l i {l[i] with fate:=f} hi;have a4:=JM (uk id) l i {l[i] with fate:=f} hi;have a5:=JM (u1 id) l i {l[i] with fate:=f} hi;have b1:uC id {l[i] with fate:=f}=0:=by unfold uC;rw[ag (by rintro⟨hh,_⟩;dsimp only at hh;omega)]
 have b2:uE id {l[i] with fate:=f}=0:=by unfold uE;rw[ag (by rintro⟨hh,_⟩;dsimp only at hh;omega)]
 have b3:uj id {l[i] with fate:=f}=uj id l[i]:=rfl;have b4:uk id {l[i] with fate:=f}=uk id l[i]:=rfl;have c1:uC id l[i]=if l[i].move.bw=id then l[i].move.aU else 0:=by
  unfold uC;by_cases h:l[i].move.bw=id
  ·rw[ai ⟨h1,h⟩,ai h]
  ·rw[ag (λhh=>h hh.2),ag h]
 have c2:uE id l[i]=if l[i].move.aP=id then l[i].move.aU else 0:=by
  unfold uE;by_cases h:l[i].move.aP=id
  ·rw[ai ⟨h1,h⟩,ai h]
  ·rw[ag (λhh=>h hh.2),ag h]
 rw[b1,c1] at a1;rw[b2,c2] at a2;rw[b3] at a3;rw[b4] at a4;refine⟨by omega,by omega,by omega,by omega,?_⟩;by_cases qj:has l[i].move.aq 64/\l[i].move.bw=id\/has l[i].move.aq 128/\l[i].move.aP=id
 ·have d1:u1 id l[i]=1:=ai ⟨qj,.inl h1⟩;by_cases Fa:f=2
  ·have d2:u1 id {l[i] with fate:=f}=1:=ai ⟨qj,.inr Fa⟩;rw[ag (λhh=>hh.1 Fa)];omega
  ·have d2:u1 id {l[i] with fate:=f}=0:=ag (by rintro⟨_,hh⟩;dsimp only at hh;omega);rw[ai ⟨Fa,qj⟩];omega
 ·have d1:u1 id l[i]=0:=ag (λhh=>qj hh.1);have d2:u1 id {l[i] with fate:=f}=0:=ag (λhh=>qj hh.1);rw[ag (λhh=>qj hh.2)];omega
def J8(d:bJ)(p:cM)(n:Nat)(f:Int):(A9 d p n f).id=d.id/\(A9 d p n f).ay=d.ay:=by unfold A9 open_;split<;>(try exact⟨rfl,rfl⟩);split<;>exact⟨rfl,rfl⟩
def J9(d:bJ)(p:cM)(n:Nat)(f:Int):(Ca d p n f).id=d.id/\(Ca d p n f).ay=d.ay:=by unfold Ca open_;split<;>(try exact⟨rfl,rfl⟩);split<;>exact⟨rfl,rfl⟩
def LY{l:List ch}{i:Nat}(hi:i<l.length){f:Int}{n:Nat}{a:bJ}(h1:l[i].fate=1)(hw:has l[i].move.aq 2)(hf:f=2\/f=3\/f=4)(kN:l[i].move.bw≠l[i].move.aP)(ha0:0<=a.aq)(ha8:a.aq<8)(qj:S (u1 a.id) l<=1)
 {d c:bJ}(hd:d.id=l[i].move.bw)(hc:c.id=l[i].move.aP)(hxd:a.id=l[i].move.bw->full l a=d)(hxc:a.id=l[i].move.aP->full l a=c):
 (λy:bJ=>if y.id=(Ca c l[i].move n f).id then{Ca c l[i].move n f with ay:=y.ay} else y) ((λy:bJ=>if y.id=(A9 d l[i].move n f).id then{A9 d l[i].move n f with ay:=y.ay} else y) (full l a))
 ={full (l.set i {l[i] with fate:=f}) a with dq:=(full l a).dq+(if f=2/\l[i].move.bw=a.id then n else 0),cq:=(full l a).cq+(if f=2/\l[i].move.aP=a.id then n else 0)}:=by
 have NY:(full l a).id=a.id:=rfl;obtain⟨e1,e2,e3,e4,e5⟩:=ended hi h1 hw hf a.id;dsimp only;rw[(J9 c _ n f).1,(J8 d _ n f).1,hd,hc];generalize hk:l[i]=k at *;generalize hl:l.set i {k with fate:=f}=l' at *;by_cases S4:a.id=k.move.bw
 ·have hx:=hxd S4;rw[ai (show(full l a).id=k.move.bw by rw[NY];exact S4),ag (show ¬k.move.bw=k.move.aP from kN),<-hx];have abK: ¬k.move.aP=a.id:=λhh=>kN (by rw[hh,S4]);rw[ai S4.symm] at e1;rw[ag abK] at e2;unfold A9 open_ full;dsimp only;by_cases h2:f=2
  ·subst h2;simp only[if_true,true_and,S4.symm,abK,if_false,eL];rw[ag (by rintro⟨hh,_⟩;exact hh rfl)] at e5;have:S (u1 a.id) l'=S (u1 a.id) l:=by omega
   simp only[this,e3,e4]
   congr 1<;>omega
  ·have hb:∀p:Prop,¬(f=2/\p):=λp hh=>h2 hh.1;rw[ag h2,ag (hb _),ag (hb _)];by_cases Y1:has k.move.aq 64
   ·rw[ai ⟨h2,.inl ⟨Y1,S4.symm⟩⟩] at e5;have z1:S (u1 a.id) l'=0:=by omega
    have z2: ¬S (u1 a.id) l=0:=by omega
    simp only[z1,z2,Y1,if_true,if_false,e3,e4]
    congr 1<;>omega
   ·rw[ag (by rintro⟨_,hh|hh⟩;exact Y1 hh.1;exact abK hh.2)] at e5;have:S (u1 a.id) l'=S (u1 a.id) l:=by omega
    simp only[this,Y1,if_false,e3,e4]
    congr 1<;>omega
 ·rw[ag (show ¬(full l a).id=k.move.bw by rw[NY];exact S4)];have SS: ¬k.move.bw=a.id:=λhh=>S4 hh.symm;by_cases Rh:a.id=k.move.aP
  ·have hx:=hxc Rh;rw[ai (show(full l a).id=k.move.aP by rw[NY];exact Rh),<-hx];rw[ag SS] at e1;rw[ai Rh.symm] at e2;unfold Ca open_ full;dsimp only;by_cases h2:f=2
   ·subst h2;simp only[if_true,true_and,Rh.symm,SS,if_false,eL];rw[ag (by rintro⟨hh,_⟩;exact hh rfl)] at e5;have:S (u1 a.id) l'=S (u1 a.id) l:=by omega
    simp only[this,e3,e4]
    congr 1<;>omega
   ·have hb:∀p:Prop,¬(f=2/\p):=λp hh=>h2 hh.1;rw[ag h2,ag (hb _),ag (hb _)];by_cases Dq:has k.move.aq 128
    ·rw[ai ⟨h2,.inr ⟨Dq,Rh.symm⟩⟩] at e5;have z1:S (u1 a.id) l'=0:=by omega
     have z2: ¬S (u1 a.id) l=0:=by omega
     simp only[z1,z2,Dq,if_true,if_false,e3,e4]
     congr 1<;>omega
    ·rw[ag (by rintro⟨_,hh|hh⟩;exact SS hh.2;exact Dq hh.1)] at e5;have:S (u1 a.id) l'=S (u1 a.id) l:=by omega
     simp only[this,Dq,if_false,e3,e4]
     congr 1<;>omega
  ·rw[ag (show ¬(full l a).id=k.move.aP by rw[NY];exact Rh)];have abL: ¬k.move.aP=a.id:=λhh=>Rh hh.symm;rw[ag SS] at e1;rw[ag abL] at e2;rw[ag (by rintro⟨_,hh|hh⟩;exact SS hh.2;exact abL hh.2)] at e5;have:S (u1 a.id) l'=S (u1 a.id) l:=by omega
   unfold full;simp only[this,SS,abL,and_false,if_false,eL,e3,e4]
   congr 1<;>omega
def Ek{l:List ch}{p:ch->Bool}:l.find? p=(l.findIdx? p).bind λi=>l[i]?:=by
 induction l with
 |nil=>rfl
 |cons x l ih=>
  rw[List.find?_cons,List.findIdx?_cons];cases hp:p x with
  |true=>rfl
  |false=>
   simp only[ih];cases l.findIdx? p with
   |none=>rfl
   |some i=>simp
def pC.make{b:aZ}{m:aA}{a:bJ}(hs:pC b m)(hg:bK m):(b.make a).1=(m.make a).1/\pC (b.make a).2 (m.make a).2/\bK (m.make a).2:=by
 unfold aZ.make aA.make;by_cases h1:uw a≠0
 ·rw[ai h1,ai h1];exact⟨rfl,hs,hg⟩
 rw[ag h1,ag h1,hs.find];cases hf:m.find a.id with
 |some x=>
  refine⟨?_,hs,hg⟩;show ux a (Md.full m.ax x)=ux a x;have hz:=hg.zero x (xC hf).1;unfold ux Md.full;dsimp only;have:(if S (u1 x.id) m.ax=0 then x.aq else x.aq%8+8)/2%4=x.aq/2%4:=by split<;>omega
  rw[this]
 |none=>
  have hlen:b.aB.length=m.cE.length:=by rw[hs.aB,bU]
  dsimp only[Option.map_none];rw[hlen];by_cases h2:32<=m.cE.length
  ·rw[ai h2,ai h2];exact⟨rfl,hs,hg⟩
  rw[ag h2,ag h2];have uu:=bm.1 h1;have o7:∀x∈m.cE,x.id≠a.id:=λx hx=>by
   have:=nJ.1 hf x hx;simpa using this
  have hc:0<=a.aq/\a.aq<=7/\a.dp=0/\a.dq=0/\a.cp=0/\a.cq=0:=by
   unfold uw at uu;by_cases c1:a.aq<0\/7<a.aq
   ·rw[ai c1] at uu;exact aQ uu (by decide)
   rw[ag c1] at uu;by_cases c2:a.id=0
   ·rw[ai c2] at uu;exact aQ uu (by decide)
   rw[ag c2] at uu;by_cases c3:a.id=bG-1
   ·rw[ai c3] at uu;exact aQ uu (by decide)
   rw[ag c3] at uu;by_cases c4:has a.aq 2/\has a.aq 4
   ·rw[ai c4] at uu;exact aQ uu (by decide)
   rw[ag c4] at uu;by_cases c5:a.dp≠0\/a.dq≠0\/a.cp≠0\/a.cq≠0\/a.ay≠0
   ·rw[ai c5] at uu;exact aQ uu (by decide)
   omega
  have z:∀k∈m.ax,k.move.bw≠a.id/\k.move.aP≠a.id:=λk hk=>by
   obtain⟨_,s1,s2⟩:=hg.wg k hk;obtain⟨x,hx,hxe⟩:=cA.1 s1;obtain⟨y,hy,hye⟩:=cA.1 s2;exact⟨λh=>o7 x hx (by rw[hxe,h]),λh=>o7 y hy (by rw[hye,h])⟩
  have S0:∀f:ch->Nat,(∀k∈m.ax,f k=0)->S f m.ax=0:=λf hf=>by
   have:∀l:List ch,(∀k∈l,f k=0)->S f l=0:=λl=>by
    induction l with
    |nil=>intro _;rfl
    |cons x l ih=>intro h;rw[pY,h x (by simp),ih λk hk=>h k (by simp[hk])]
   exact this _ hf
  have z1:S (uC a.id) m.ax=0:=S0 _ λk hk=>ag (λhh=>(z k hk).1 hh.2);have z2:S (uE a.id) m.ax=0:=S0 _ λk hk=>ag (λhh=>(z k hk).2 hh.2);have z3:S (uj a.id) m.ax=0:=S0 _ λk hk=>ag (λhh=>(z k hk).1 hh.2);have z4:S (uk a.id) m.ax=0:=S0 _ λk hk=>ag (λhh=>(z k hk).2 hh.2);have z5:S (u1 a.id) m.ax=0:=S0 _ λk hk=>ag (λhh=>by
   rcases hh.1 with h|h
   ·exact(z k hk).1 h.2
   ·exact(z k hk).2 h.2)
  refine⟨rfl,⟨?_,hs.ax,hs.clock,by show b.ay+1=m.ay+1;rw[hs.ay]⟩,?_⟩
  ·show b.aB++[_]=(m.cE++[_]).map (Md.full m.ax);rw[cY,hs.aB,hs.ay]
   congr 1
   simp only[cW,uS]
   congr 1
   unfold Md.full;dsimp only;rw[z1,z2,z3,z4,z5,ai rfl];simp
  ·have key:∀x∈m.cE++[({a with ay:=m.ay+1,aq:=a.aq/2* 2}:bJ)],x∈m.cE\/x={a with ay:=m.ay+1,aq:=a.aq/2* 2}:=λx hx=>by
    rcases dF.1 hx with h|h
    ·exact .inl h
    ·exact .inr (by simpa using h)
   refine⟨λx hx=>?_,?_,?_,hg.names,hg.vB,λk hk=>?_,hg.some_,λx hx=>?_,λx hx=>?_,λx hx=>?_⟩
   ·rcases key x hx with h|rfl
    ·exact hg.zero x h
    ·exact⟨hc.2.2.1,hc.2.2.2.1,hc.2.2.2.2.1,hc.2.2.2.2.2,by show 0<=a.aq/2* 2;omega,by show a.aq/2* 2<8;omega⟩
   ·show((m.cE++[_]).map _).Nodup;rw[cY,List.nodup_append];refine⟨hg.ids,by simp,λx hx y hy=>?_⟩;simp only[cW,uS,DH] at hy;obtain⟨u,hu,rfl⟩:=cA.1 hx;rw[hy];exact o7 u hu
   ·show(m.cE++[_]).length<=32;rw[aw,qg];omega
   ·obtain⟨s0,s1,s2⟩:=hg.wg k hk;refine⟨s0,?_,?_⟩
    ·show _∈(m.cE++[_]).map _;rw[cY];exact List.mem_append_left _ s1
    ·show _∈(m.cE++[_]).map _;rw[cY];exact List.mem_append_left _ s2
   ·rcases key x hx with h|rfl
    ·exact hg.yG x h
    ·show S (uC a.id) m.ax+S (uj a.id) m.ax<bG;rw[z1,z3];decide
   ·rcases key x hx with h|rfl
    ·exact hg.uO x h
    ·show S (uE a.id) m.ax+S (uk a.id) m.ax<bG;rw[z2,z4];decide
   ·rcases key x hx with h|rfl
    ·exact hg.wE x h
    ·show S (u1 a.id) m.ax<=1;rw[z5];decide
def aA.Vd{m:aA}{id:Nat}{k:ch}(h:m.named id=some k):∃i,m.name id=some i/\∃hi:i<m.ax.length,m.ax[i]=k/\k.move.id=id:=by
 unfold aA.named at h;rw[Ek] at h;unfold aA.name;cases hx:m.ax.findIdx? (λk=>decide (k.move.id=id)) with
 |none=>rw[hx] at h;cases h
 |some i=>
  rw[hx] at h;simp only[Option.bind_some] at h;obtain⟨hi,hk⟩:=ao.1 h;refine⟨i,rfl,hi,hk,?_⟩;have:=(List.findIdx?_eq_some_iff_getElem.1 hx);obtain⟨_,hp,_⟩:=this;rw[hk] at hp;simpa using hp
def aA.SB{m:aA}{id:Nat}(h:m.named id=none):m.name id=none:=by
 unfold aA.named at h;rw[Ek] at h;unfold aA.name;cases hx:m.ax.findIdx? (λk=>decide (k.move.id=id)) with
 |none=>rfl
 |some i=>
  rw[hx] at h;simp only[Option.bind_some] at h;have:=(List.findIdx?_eq_some_iff_getElem.1 hx).1;rw[aj this] at h;cases h
def SA{l:List ch}(hn:(l.map (·.move.id)).Nodup){i j:Nat}(hi:i<l.length)(hj:j<l.length)(h:l[i].move.id=l[j].move.id):i=j:=by
 have e1:(l.map (·.move.id))[i]?=some (l[i].move.id):=by rw[eo,aj hi];rfl
 have e2:(l.map (·.move.id))[j]?=some (l[i].move.id):=by rw[eo,aj hj,h];rfl
 exact(List.getElem?_inj (by simpa using hi) hn).1 (e1.trans e2.symm)
def MX{l:List ch}(hn:(l.map (·.move.id)).Nodup){i:Nat}(hi:i<l.length)(h1:l[i].fate=1)(f:Int):(l.map λk=>if k.move.id=l[i].move.id/\k.fate=1 then{k with fate:=f} else k)=l.set i {l[i] with fate:=f}:=by
 apply qN;intro j;rw[eo,da];by_cases NX:i=j
 ·subst NX;rw[aj hi,ai rfl,ai hi,fw,ai ⟨rfl,h1⟩]
 ·rw[ag NX];cases hj:l[j]? with
  |none=>rfl
  |some k=>
   obtain⟨Vy,hk⟩:=ao.1 hj;rw[fw,ag];rintro⟨hh,_⟩;rw[<-hk] at hh;exact NX (SA hn hi Vy hh.symm)
def oq{m:aA}{i:Nat}(hi:i<m.ax.length)(f:Int):(m.dH i f).ax=m.ax.set i {m.ax[i] with fate:=f}:=by
 unfold aA.dH;rw[modify_eq _ _ _ hi]
def bK.dH{m:aA}(hg:bK m){i:Nat}(hi:i<m.ax.length)(h1:m.ax[i].fate=1){f:Int}(hf:f=2\/f=3\/f=4):bK (m.dH i f):=by
 have hk:=oq (m:=m) hi f;have oB:=bP hi;have hw:has m.ax[i].move.aq 2:=(hg.vB _ oB).2.2.2 (by omega);have aiq:(m.dH i f).cE=m.cE:=rfl;have key:∀k∈(m.dH i f).ax,∃k0∈m.ax,k.move=k0.move/\k.asked=k0.asked/\(k=k0\/k.fate=f/\k0.fate=1):=λk MJ=>by
  rw[hk] at MJ;rcases eE MJ with h|h
  ·exact⟨k,h,rfl,rfl,.inl rfl⟩
  ·subst h;exact⟨m.ax[i],oB,rfl,rfl,.inr ⟨rfl,h1⟩⟩
 refine⟨hg.zero,hg.ids,hg.og,?_,λk MJ=>?_,λk MJ=>?_,?_,λa ha=>?_,λa ha=>?_,λa ha=>?_⟩
 ·rw[hk,List.map_set];have:m.ax[i].move.id=(m.ax.map (·.move.id))[i]'(by simpa using hi):=by simp
  have e:(m.ax.map (·.move.id)).set i ({m.ax[i] with fate:=f}:ch).move.id=m.ax.map (·.move.id):=by
   show(m.ax.map (·.move.id)).set i m.ax[i].move.id=_;rw[this,List.set_getElem_self]
  rw[e];exact hg.names
 ·obtain⟨k0,h0,e1,e2,e3⟩:=key k MJ;have:=hg.vB k0 h0;rcases e3 with rfl|⟨e3,e4⟩
  ·exact this
  ·rw[e1];have h2:=this.2.2.2 (by omega);exact⟨by omega,by omega,λ_=>by omega,λ_=>h2⟩
 ·obtain⟨k0,h0,e1,e2,e3⟩:=key k MJ;rw[e1];exact hg.wg k0 h0
 ·rw[hk,jm];exact hg.some_
 ·have:=hg.yG a ha;obtain⟨e1,e2,e3,e4,e5⟩:=ended hi h1 hw hf a.id;rw[hk];omega
 ·have:=hg.uO a ha;obtain⟨e1,e2,e3,e4,e5⟩:=ended hi h1 hw hf a.id;rw[hk];omega
 ·have:=hg.wE a ha;obtain⟨e1,e2,e3,e4,e5⟩:=ended hi h1 hw hf a.id;rw[hk];omega
def pC.release{b:aZ}{m:aA}(hs:pC b m)(hg:bK m){i:Nat}(hi:i<m.ax.length)(h1:m.ax[i].fate=1){f:Int}(hf:f=3\/f=4)(n:Nat):pC (b.release m.ax[i].move n f) (m.dH i f):=by
 have oB:=bP hi;have hw:has m.ax[i].move.aq 2:=(hg.vB _ oB).2.2.2 (by omega);obtain⟨kN,hd,hc⟩:=hg.wg _ oB;obtain⟨d0,Fc,EI⟩:=cA.1 hd;obtain⟨c0,TQ,Ef⟩:=cA.1 hc;have fd:b.find m.ax[i].move.bw=some (Md.full m.ax d0):=by
  rw[hs.find];unfold aA.find;rw[<-EI,pw hg.ids Fc];rfl
 have fc:b.find m.ax[i].move.aP=some (Md.full m.ax c0):=by
  rw[hs.find];unfold aA.find;rw[<-Ef,pw hg.ids TQ];rfl
 unfold aZ.release;rw[fd,fc];have hk:=oq (m:=m) hi f;refine⟨?_,?_,hs.clock,hs.ay⟩
 ·show((b.aB.map _).map _)=m.cE.map (Md.full (m.dH i f).ax);rw[hk,hs.aB,pD,pD];apply eg;intro a ha;have hz:=hg.zero a ha;have:=LY (l:=m.ax) (n:=n) (a:=a) (d:=Md.full m.ax d0) (c:=Md.full m.ax c0) hi h1 hw (.inr hf) kN hz.2.2.2.2.1 hz.2.2.2.2.2 (hg.wE a ha) EI Ef
   (λh=>by
    have e:(m.find m.ax[i].move.bw).map (Md.full m.ax)=some (Md.full m.ax d0):=by rw[<-hs.find];exact fd
    exact hg.one e ha h)
   (λh=>by
    have e:(m.find m.ax[i].move.aP).map (Md.full m.ax)=some (Md.full m.ax c0):=by rw[<-hs.find];exact fc
    exact hg.one e ha h)
  refine Eq.trans this ?_;have h2: ¬f=2:=by omega
  obtain⟨e1,e2,e3,e4,e5⟩:=ended hi h1 hw (.inr hf) a.id;rw[ag (λhh=>h2 hh.1),ag (λhh=>h2 hh.1)];unfold Md.full;dsimp only;rw[e3,e4]
  rfl
 ·show(b.ax.map _)=_;rw[hs.ax,hk];exact MX hg.names hi h1 f
def M6{t:cM}{named:Option ch}{k:ch}{d1 c1 d2 c2:Bool}{many:Nat}(h:has k.move.aq 2-> ¬1<k.fate->d1=d2/\c1=c2):oy t named (some k) d1 c1 many=oy t named (some k) d2 c2 many:=by
 unfold oy;split
 ·rfl
 split
 ·rfl
 split
 ·rfl
 ·dsimp only;split
  ·rfl
  rename_i h2;split
  ·rfl
  split
  ·rfl
  rename_i h3;obtain⟨e1,e2⟩:=h (bm.1 h2) h3;rw[e1,e2]
def Bv{t:cM}{named:Option ch}{k:ch}{d c:Bool}{many:Nat}(h:oy t named (some k) d c many=0)(hk:0<=k.fate):named=none/\nG t=0/\ke t.aq/\has k.move.aq 2/\ ¬1<k.fate/\ ¬mq t k.move/\many<96:=by
 unfold oy at h;by_cases h1:nG t≠0
 ·rw[ai h1] at h;exact aQ h h1
 rw[ag h1] at h;by_cases h2: ¬ke t.aq
 ·rw[ai h2] at h;exact aQ h (by decide)
 rw[ag h2] at h;cases named with
 |some x=>exact aQ h (tr t x.asked)
 |none=>
  dsimp only at h;by_cases h3: ¬has k.move.aq 2
  ·rw[ai h3] at h;exact aQ h (by decide)
  rw[ag h3] at h;by_cases h4:gi t k.move
  ·rw[ai h4] at h;exact aQ h (by decide)
  rw[ag h4] at h;by_cases h5:1<k.fate
  ·rw[ai h5] at h;omega
  rw[ag h5] at h;by_cases h6:mq t k.move
  ·rw[ai h6] at h;exact aQ h (by decide)
  rw[ag h6] at h;by_cases h7:has t.aq 4/\d=true
  ·rw[ai h7] at h;exact aQ h (by decide)
  rw[ag h7] at h;by_cases h8:has t.aq 4/\c=true
  ·rw[ai h8] at h;exact aQ h (by decide)
  rw[ag h8] at h;by_cases h9:96<=many
  ·rw[ai h9] at h;exact aQ h (by decide)
  exact⟨rfl,bm.1 h1,bm.1 h2,bm.1 h3,h5,h6,by omega⟩
def G3{t:cM}(h:nG t=0)(he:ke t.aq): ¬has t.aq 2/\(has t.aq 8↔ ¬has t.aq 4)/\ ¬has t.aq 64/\ ¬has t.aq 128:=by
 unfold nG at h;by_cases h1:t.aq<0\/255<t.aq
 ·rw[ai h1] at h;exact aQ h (by decide)
 rw[ag h1] at h;by_cases h2:t.id=0
 ·rw[ai h2] at h;exact aQ h (by decide)
 rw[ag h2] at h;by_cases h3:t.id=bG-1
 ·rw[ai h3] at h;exact aQ h (by decide)
 rw[ag h3] at h;by_cases h4: ¬jy t.aq
 ·rw[ai h4] at h;exact aQ h (by decide)
 have h4:=bm.1 h4;unfold jy at h4;unfold ke at h4 he;obtain⟨g1,g2,g3⟩:=h4;refine⟨λh2=>?_,⟨λh8 h4=>g1 (.inr (.inr ⟨h4,h8⟩)),λh4=>he.resolve_left h4⟩,λY1=>?_,λDq=>?_⟩
 ·rcases he with he|he
  ·exact g1 (.inl ⟨h2,he⟩)
  ·exact g1 (.inr (.inl ⟨h2,he⟩))
 ·have: ¬16<=t.aq:=λhh=>g2 ⟨he,hh⟩;unfold has at Y1;omega
 ·have: ¬16<=t.aq:=λhh=>g2 ⟨he,hh⟩;unfold has at Dq;omega
def Em{b:aZ}{m:aA}(hs:pC b m)(hg:bK m){i:Nat}(hi:i<m.ax.length)(h1:m.ax[i].fate=1){id:Nat}{F:Int}
 (NY:id=m.ax[i].move.bw/\F=64\/id=m.ax[i].move.aP/\F=128):b.mW id (has m.ax[i].move.aq F)=m.closed id i:=by
 have oB:=bP hi;have hw:has m.ax[i].move.aq 2:=(hg.vB _ oB).2.2.2 (by omega);obtain⟨kN,hd,hc⟩:=hg.wg _ oB;have tG:id∈m.cE.map (·.id):=by
  rcases NY with⟨h,_⟩|⟨h,_⟩<;>rw[h]<;>assumption
 obtain⟨a,ha,hai⟩:=cA.1 tG;have hfm:m.find id=some a:=by unfold aA.find;rw[<-hai];exact pw hg.ids ha
 have hz:=hg.zero a ha;have hg3:=hg.dH hi h1 (f:=3) (.inr (.inl rfl));have hk3:=oq (m:=m) hi 3;have hff:=hg3.full (a:=a) ha;unfold aA.full at hff;have e1:m.closed id i=decide (8<=(Md.full (m.dH i 3).ax a).aq):=by
  unfold aA.closed;rw[hfm];dsimp only;have:(m.ax.modify i λk=>{k with fate:=3})=(m.dH i 3).ax:=rfl;rw[this,hff]
 have e2:b.mW id (has m.ax[i].move.aq F)=decide (8<=(Md.full m.ax a).aq/\ ¬has m.ax[i].move.aq F):=by
  unfold aZ.mW;rw[hs.find,hfm]
  rfl
 rw[e1,e2,decide_eq_decide];have Re:∀l,8<=(Md.full l a).aq↔S (u1 a.id) l≠0:=λl=>by
  by_cases h0:S (u1 a.id) l=0
  ·have:(Md.full l a).aq=a.aq:=ai h0;rw[this];exact⟨λh=>by omega,λh=>aQ h0 h⟩
  ·have:(Md.full l a).aq=a.aq%8+8:=ag h0;rw[this];exact⟨λ_=>h0,λ_=>by omega⟩
 rw[Re,Re,hk3];obtain⟨_,_,_,_,e5⟩:=ended hi h1 hw (f:=3) (.inr (.inl rfl)) a.id;have qj:=hg.wE a ha;rcases NY with⟨h,rfl⟩|⟨h,rfl⟩
 ·have S4:m.ax[i].move.bw=a.id:=by rw[hai,h]
  have Rh: ¬m.ax[i].move.aP=a.id:=λhh=>kN (by rw[S4,hh]);by_cases hF:has m.ax[i].move.aq 64
  ·rw[ai ⟨by decide,.inl ⟨hF,S4⟩⟩] at e5;exact⟨λhh=>aQ hF hh.2,λhh=>aQ (show S (u1 a.id) _=0 by omega) hh⟩
  ·rw[ag (by rintro⟨_,hh|hh⟩;exact hF hh.1;exact Rh hh.2)] at e5;exact⟨λhh=>by have:=hh.1;omega,λhh=>⟨by omega,hF⟩⟩
 ·have Rh:m.ax[i].move.aP=a.id:=by rw[hai,h]
  have S4: ¬m.ax[i].move.bw=a.id:=λhh=>kN (by rw[hh,Rh]);by_cases hF:has m.ax[i].move.aq 128
  ·rw[ai ⟨by decide,.inr ⟨hF,Rh⟩⟩] at e5;exact⟨λhh=>aQ hF hh.2,λhh=>aQ (show S (u1 a.id) _=0 by omega) hh⟩
  ·rw[ag (by rintro⟨_,hh|hh⟩;exact S4 hh.2;exact hF hh.1)] at e5;exact⟨λhh=>by have:=hh.1;omega,λhh=>⟨by omega,hF⟩⟩
def pC.py{b:aZ}{m:aA}{t:cM}(hs:pC b m)(hg:bK m):(b.py t).1=(m.py t).1/\pC (b.py t).2 (m.py t).2/\bK (m.py t).2:=by
 unfold aZ.py aA.py;rw[hs.Kj,hs.Kj,hs.ax];cases hp:m.named t.pending with
 |none=>
  rw[aA.SB hp];exact⟨rfl,hs,hg⟩
 |some k=>
  obtain⟨i,hn,hi,hk,_⟩:=aA.Vd hp;rw[hn];dsimp only;rw[aj hi,hk];dsimp only;have oB:k∈m.ax:=by rw[<-hk];exact bP hi
  have hft:=hg.vB k oB;have adS:oy t (m.named t.id) (some k) (b.mW k.move.bw (has k.move.aq 64)) (b.mW k.move.aP (has k.move.aq 128)) m.ax.length=oy t (m.named t.id) (some k) (m.closed k.move.bw i) (m.closed k.move.aP i) m.ax.length:=by
   refine M6 (λh2 h3=>?_);have h1:m.ax[i].fate=1:=by rw[hk];have:=hft.2.2.1 h2;omega
   have c1:=Em hs hg hi h1 (id:=k.move.bw) (F:=64) (by rw[hk];exact .inl ⟨rfl,rfl⟩);have c2:=Em hs hg hi h1 (id:=k.move.aP) (F:=128) (by rw[hk];exact .inr ⟨rfl,rfl⟩);rw[hk] at c1 c2;exact⟨c1,c2⟩
  rw[adS];by_cases hr:oy t (m.named t.id) (some k) (m.closed k.move.bw i) (m.closed k.move.aP i) m.ax.length≠0
  ·rw[ai hr,ai hr];exact⟨rfl,hs,hg⟩
  rw[ag hr,ag hr];obtain⟨Rb,uu,rT,hw,hfa,AI,xw⟩:=Bv (bm.1 hr) hft.1;have h1:m.ax[i].fate=1:=by rw[hk];have:=hft.2.2.1 hw;omega
  obtain⟨f2,f8,f64,f128⟩:=G3 uu rT;have hf:cK t=2\/cK t=3:=by unfold cK;split<;>simp
  have hf':cK t=2\/cK t=3\/cK t=4:=by rcases hf with h|h<;>simp[h]
  have Fa:cK t=2↔has t.aq 4:=by unfold cK;split<;>simp_all
  have NZ:=hg.dH hi h1 hf';have YQ:=oq (m:=m) hi (cK t);obtain⟨kN,hd,hc⟩:=hg.wg k oB;obtain⟨d0,Fc,EI⟩:=cA.1 hd;obtain⟨c0,TQ,Ef⟩:=cA.1 hc;have fd:b.find k.move.bw=some (Md.full m.ax d0):=by
   rw[hs.find];unfold aA.find;rw[<-EI,pw hg.ids Fc];rfl
  have fc:b.find k.move.aP=some (Md.full m.ax c0):=by
   rw[hs.find];unfold aA.find;rw[<-Ef,pw hg.ids TQ];rfl
  have r1:∀id st ck,uC id ⟨t,{mJ t k.move with ay:=st,jh:=ck},0⟩=0:=λid st ck=>ag (λhh=>aQ hh.1 (show ¬(0:Int)=1 by decide));have r2:∀id st ck,uE id ⟨t,{mJ t k.move with ay:=st,jh:=ck},0⟩=0:=λid st ck=>ag (λhh=>aQ hh.1 (show ¬(0:Int)=1 by decide));have rp:∀st ck,jo ⟨t,{mJ t k.move with ay:=st,jh:=ck},0⟩↔cK t=2:=λst ck=>by
   rw[Fa];show(¬has t.aq 2/\ ¬has t.aq 8)↔_
   constructor
   ·rintro⟨_,hh⟩;by_cases h4:has t.aq 4
    ·exact h4
    ·exact aQ (f8.2 h4) hh
   ·intro h4;exact⟨f2,λh8=>f8.1 h8 h4⟩
  have r3:∀id st ck,uj id ⟨t,{mJ t k.move with ay:=st,jh:=ck},0⟩=if cK t=2/\k.move.bw=id then cV t k.move else 0:=λid st ck=>by
   unfold uj;by_cases h:cK t=2/\k.move.bw=id
   ·rw[ai h,ai ⟨(rp st ck).2 h.1,h.2⟩];rfl
   ·rw[ag h,ag (λhh=>h ⟨(rp st ck).1 hh.1,hh.2⟩)]
  have r4:∀id st ck,uk id ⟨t,{mJ t k.move with ay:=st,jh:=ck},0⟩=if cK t=2/\k.move.aP=id then cV t k.move else 0:=λid st ck=>by
   unfold uk;by_cases h:cK t=2/\k.move.aP=id
   ·rw[ai h,ai ⟨(rp st ck).2 h.1,h.2⟩];rfl
   ·rw[ag h,ag (λhh=>h ⟨(rp st ck).1 hh.1,hh.2⟩)]
  have r5:∀id st ck,u1 id ⟨t,{mJ t k.move with ay:=st,jh:=ck},0⟩=0:=λid st ck=>ag (λhh=>by
   rcases hh.1 with h|h
   ·exact f64 h.1
   ·exact f128 h.1)
  have Y0:cK t=2->cV t k.move<=k.move.aU:=λh2=>by
   have h4:=Fa.1 h2;by_cases bX:k.move.aU<cV t k.move
   ·exact aQ (.inl ⟨h4,bX⟩) AI
   ·omega
  refine⟨rfl,⟨?_,?_,?_,?_⟩,?_⟩
  ·unfold aZ.release;rw[fd,fc];show((b.aB.map _).map _)=m.cE.map (Md.full ((m.dH i (cK t)).ax++[_]));rw[YQ,hs.aB,pD,pD];apply eg;intro a ha;have hz:=hg.zero a ha;have:=LY (l:=m.ax) (n:=cV t k.move) (a:=a) (d:=Md.full m.ax d0) (c:=Md.full m.ax c0) hi h1 (by rw[hk];exact hw) hf' (by rw[hk];exact kN) hz.2.2.2.2.1 hz.2.2.2.2.2 (hg.wE a ha) (by rw[hk];exact EI) (by rw[hk];exact Ef)
    (λh=>by
     rw[hk] at h
     have e:(m.find k.move.bw).map (Md.full m.ax)=some (Md.full m.ax d0):=by rw[<-hs.find];exact fd
     exact hg.one e ha h)
    (λh=>by
     rw[hk] at h
     have e:(m.find k.move.aP).map (Md.full m.ax)=some (Md.full m.ax c0):=by rw[<-hs.find];exact fc
     exact hg.one e ha h)
   rw[hk] at this;refine Eq.trans this ?_;obtain⟨e1,e2,e3,e4,e5⟩:=ended hi h1 (by rw[hk];exact hw) hf' a.id;rw[hk] at e3 e4;rw[Jt,Cw,r1,r2,r3,r4,hk];have NY:(Md.full (m.ax.set i {k with fate:=cK t}) a).id=a.id:=rfl;rw[NY];have afs: ¬kQ a.id ⟨t,{mJ t k.move with ay:=(m.dH i (cK t)).ay+1,jh:=(m.dH i (cK t)).clock},0⟩:=λhh=>by
    rcases hh.1 with h|h
    ·exact f64 h.1
    ·exact f128 h.1
   rw[ag afs];have q1:(Md.full m.ax a).dq=a.dq+S (uj a.id) m.ax:=rfl;have q2:(Md.full m.ax a).cq=a.cq+S (uk a.id) m.ax:=rfl;rw[q1,q2,<-e3,<-e4]
   rfl
  ·unfold aZ.release;rw[fd,fc];show(b.ax.map _)++[_]=(m.dH i (cK t)).ax++[_];have hms:(m.dH i (cK t)).ay=m.ay:=rfl;have hmc:(m.dH i (cK t)).clock=m.clock:=rfl;rw[YQ,hs.ax,hms,hmc]
   congr 1
   ·have:=MX hg.names hi h1 (cK t);rw[hk] at this⊢;exact this
   ·show[(⟨t,{mJ t k.move with ay:=b.ay+1,jh:=b.clock},0⟩:ch)]=_;rw[hs.ay,hs.clock]
  ·unfold aZ.release;rw[fd,fc];exact hs.clock
  ·unfold aZ.release;rw[fd,fc];show b.ay+1=m.ay+1;rw[hs.ay]
  ·refine⟨NZ.zero,NZ.ids,NZ.og,?_,λx hx=>?_,λx hx=>?_,?_,λa ha=>?_,λa ha=>?_,λa ha=>?_⟩
   ·show(((m.dH i (cK t)).ax++[_]).map _).Nodup;rw[cY,List.nodup_append];refine⟨NZ.names,by simp,λx hx y hy=>?_⟩;simp only[cW,uS,DH] at hy;rw[YQ,List.map_set] at hx;have e:(m.ax.map (·.move.id)).set i ({m.ax[i] with fate:=cK t}:ch).move.id=m.ax.map (·.move.id):=by
     have:m.ax[i].move.id=(m.ax.map (·.move.id))[i]'(by simpa using hi):=by simp
     show(m.ax.map (·.move.id)).set i m.ax[i].move.id=_;rw[this,List.set_getElem_self]
    rw[e] at hx;obtain⟨z,hz,rfl⟩:=cA.1 hx;intro hxy;unfold aA.named at Rb;have:=nJ.1 Rb z hz;rw[hy] at hxy;have h5:z.move.id=t.id:=hxy;simp[h5] at this
   ·rcases dF.1 hx with hx|hx
    ·exact NZ.vB x hx
    ·simp only[DH] at hx;subst hx;refine⟨by show(0:Int)<=0;decide,by show(0:Int)<=4;decide,?_⟩;show has t.aq 2↔(1:Int)<=0;exact⟨λh=>aQ h f2,λh=>aQ h (by decide)⟩
   ·rcases dF.1 hx with hx|hx
    ·exact NZ.wg x hx
    ·simp only[DH] at hx;subst hx;exact⟨kN,hd,hc⟩
   ·show((m.dH i (cK t)).ax++[_]).length<=96;rw[aw,qg,YQ,jm];omega
   ·show S (uC a.id) ((m.dH i (cK t)).ax++[_])+S (uj a.id) ((m.dH i (cK t)).ax++[_])<bG;rw[uz,uz,r1,r3,YQ];obtain⟨e1,e2,e3,e4,e5⟩:=ended hi h1 (by rw[hk];exact hw) hf' a.id;have:=hg.yG a ha;rw[hk] at e1 e3;rw[hk];by_cases hq:cK t=2/\k.move.bw=a.id
    ·have:=Y0 hq.1;rw[ai hq.2] at e1;rw[ai hq];omega
    ·rw[ag hq];omega
   ·show S (uE a.id) ((m.dH i (cK t)).ax++[_])+S (uk a.id) ((m.dH i (cK t)).ax++[_])<bG;rw[uz,uz,r2,r4,YQ];obtain⟨e1,e2,e3,e4,e5⟩:=ended hi h1 (by rw[hk];exact hw) hf' a.id;have:=hg.uO a ha;rw[hk] at e2 e4;rw[hk];by_cases hq:cK t=2/\k.move.aP=a.id
    ·have:=Y0 hq.1;rw[ai hq.2] at e2;rw[ai hq];omega
    ·rw[ag hq];omega
   ·show S (u1 a.id) ((m.dH i (cK t)).ax++[_])<=1;rw[uz,r5,YQ];obtain⟨e1,e2,e3,e4,e5⟩:=ended hi h1 (by rw[hk];exact hw) hf' a.id;have:=hg.wE a ha;rw[hk] at e5;rw[hk];omega
def pC.rA{b:aZ}{m:aA}{t:cM}(hs:pC b m)(hg:bK m):(b.rA t).1=(m.rA t).1/\pC (b.rA t).2 (m.rA t).2/\bK (m.rA t).2:=by
 unfold aZ.rA aA.rA;split
 ·exact hs.py hg
 ·exact hs.move hg
def MY{m:aA}{i:Nat}(hi:i<m.ax.length)(clock:Int):((m.dH i 4).ax.map λk=>if kJ clock k then{k with fate:=4} else k)=(m.ax.map λk=>if kJ clock k then{k with fate:=4} else k)\/ ¬kJ clock m.ax[i]:=by
 by_cases ho:kJ clock m.ax[i]
 ·left
  rw[oq hi];apply qN;intro j;rw[eo,eo,da];by_cases NX:i=j
  ·subst NX;rw[ai rfl,ai hi,aj hi,fw,fw,ai ho];rw[ag (by rintro⟨hh,_⟩;exact aQ hh (show ¬(4:Int)=1 by decide))]
  ·rw[ag NX]
 ·exact .inr ho
def MZ{m:aA}{clock:Int}(h:∀k∈m.ax,¬kJ clock k):(m.ax.map λk=>if kJ clock k then{k with fate:=4} else k)=m.ax:=by
 have:m.ax.map (λk=>if kJ clock k then{k with fate:=4} else k)=m.ax.map id:=eg λk hk=>ag (h k hk);rw[this,List.map_id]
section
variable {α σ τ:Type}
def cz(linked:α->Bool):List α->Nat×Bool
 |[]=>(0,false)
 |x::l=>if linked x then((cz linked l).1+1,(cz linked l).2) else(1,true)
def iE(f:σ->α->Int×σ):σ->List α->Nat->Option (Nat×Int)×σ
 |s,[],_=>(none,s)
 |s,x::l,i=>if(f s x).1≠0 then(some (i,(f s x).1),s) else iE f (f s x).2 l (i+1)
def lg(n:Nat):Option (Nat×Int)->List Int
 |none=>bu n 0
 |some (i,c)=>(bu n 1).set i c
def iC(f:σ->α->Int×σ)(linked:α->Bool):Nat->σ->List α->List Int×σ
 |0,s,_=>([],s)
 |_+1,s,[]=>([],s)
 |fuel+1,s,x::l=>
  if(cz linked (x::l)).2=false then(lg (cz linked (x::l)).1 (some ((cz linked (x::l)).1-1,2)),s)
  else match iE f s ((x::l).take (cz linked (x::l)).1) 0 with
   |(none,s')=>(lg (cz linked (x::l)).1 none++(iC f linked fuel s' ((x::l).drop (cz linked (x::l)).1)).1,(iC f linked fuel s' ((x::l).drop (cz linked (x::l)).1)).2)
   |(some e,_)=>(lg (cz linked (x::l)).1 (some e)++(iC f linked fuel s ((x::l).drop (cz linked (x::l)).1)).1,(iC f linked fuel s ((x::l).drop (cz linked (x::l)).1)).2)
def JA{f:σ->α->Int×σ}{g:τ->α->Int×τ}{R:σ->τ->Prop}(h:∀s t x,R s t->(f s x).1=(g t x).1/\R (f s x).2 (g t x).2):
 ∀(l:List α)(s:σ)(t:τ)(i:Nat),R s t->(iE f s l i).1=(iE g t l i).1/\((iE f s l i).1=none->R (iE f s l i).2 (iE g t l i).2)
 |[],s,t,i,hr=>⟨rfl,λ_=>hr⟩
 |x::l,s,t,i,hr=>by
  obtain⟨h1,h2⟩:=h s t x hr;unfold iE;rw[h1];by_cases h0:(g t x).1≠0
  ·rw[ai h0,ai h0];exact⟨rfl,λhh=>by cases hh⟩
  ·rw[ag h0,ag h0];exact JA h l _ _ _ h2
def B5{f:σ->α->Int×σ}{g:τ->α->Int×τ}{R:σ->τ->Prop}(linked:α->Bool)(h:∀s t x,R s t->(f s x).1=(g t x).1/\R (f s x).2 (g t x).2):
 ∀(n:Nat)(l:List α)(s:σ)(t:τ),R s t->(iC f linked n s l).1=(iC g linked n t l).1/\R (iC f linked n s l).2 (iC g linked n t l).2
 |0,l,s,t,hr=>⟨rfl,hr⟩
 |n+1,[],s,t,hr=>⟨rfl,hr⟩
 |n+1,x::l,s,t,hr=>by
  unfold iC;by_cases hw:(cz linked (x::l)).2=false
  ·rw[ai hw,ai hw];exact⟨rfl,hr⟩
  rw[ag hw,ag hw];obtain⟨e1,e2⟩:=JA h ((x::l).take (cz linked (x::l)).1) s t 0 hr;cases hf:iE f s ((x::l).take (cz linked (x::l)).1) 0 with
  |mk o s'=>
   cases hg:iE g t ((x::l).take (cz linked (x::l)).1) 0 with
   |mk o' t'=>
    rw[hf,hg] at e1 e2;dsimp only at e1 e2;subst e1;cases o with
    |none=>
     obtain⟨i1,i2⟩:=B5 linked h n ((x::l).drop (cz linked (x::l)).1) s' t' (e2 rfl);dsimp only;rw[i1];exact⟨rfl,i2⟩
    |some e=>
     obtain⟨i1,i2⟩:=B5 linked h n ((x::l).drop (cz linked (x::l)).1) s t hr;dsimp only;rw[i1];exact⟨rfl,i2⟩
end
end Go.Md
namespace Go.Up
open Go.Sep Go.Den Go.RowKit Go.Prog Go.Md Go.cF
abbrev aZ:=Go.Md.aZ
structure AG(a:bJ):Prop where
 ok:xR a
 zP:nq a
 aq:0<=a.aq/\a.aq<16
 ay:0<=a.ay/\a.ay<1000
structure KG(k:ch):Prop where
 asked:Ab k.asked
 move:Ab k.move
 PM:kL k.asked
 QT:kL k.move
 vP:0<=k.asked.aq/\k.asked.aq<256
 xq:0<=k.move.aq/\k.move.aq<256
 fate:0<=k.fate/\k.fate<=4
 cn:0<=k.move.cn/\k.move.cn<=1073741824
 jh:0<=k.move.jh/\k.move.jh<=1099511627776
structure ft(b:aZ):Prop where
 ids:(b.aB.map (·.id)).Nodup
 names:(b.ax.map (·.move.id)).Nodup
 og:b.aB.length<=32
 many:b.ax.length<=96
 T0:∀a∈b.aB,AG a
 TJ:∀k∈b.ax,KG k
 rising:b.ax.Pairwise λx y=>x.move.ay<y.move.ay
 dP:∀k∈b.ax,1<=k.move.ay/\k.move.ay<=b.ay
 clock:0<=b.clock/\b.clock<=1099511627776
 ay:b.ay=b.aB.length+b.ax.length
def idxOf{α:Type}(key:α->Nat)(l:List α):(Nat->Option Int)×Nat:=(λid=>(l.findIdx? λx=>key x=id).map Int.ofNat,l.length)
section
variable {α:Type} {key:α->Nat} {l:List α} {x y:α} {i id:Nat}
def xv(h:l.findIdx? (λx=>key x=id)=some i):∃hi:i<l.length,key l[i]=id/\l.find? (λx=>key x=id)=some l[i]:=by
 obtain⟨hi,h1,h2⟩:=List.findIdx?_eq_some_iff_getElem.1 h;refine⟨hi,by simpa using h1,?_⟩;rw[List.find?_eq_some_iff_getElem];exact⟨h1,i,hi,rfl,λj hj=>by simpa using h2 j hj⟩
def Cr(h:l.findIdx? (λx=>key x=id)=none):l.find? (λx=>key x=id)=none:=by
 rw[List.findIdx?_eq_none_iff] at h;rw[nJ];intro a ha;have:=h a ha;simpa using this
def re(h:l.find? (λx=>key x=id)=none):l.findIdx? (λx=>key x=id)=none:=by
 rw[nJ] at h;rw[List.findIdx?_eq_none_iff];intro a ha;have:=h a ha;simpa using this
def Cq(h:l.find? (λa=>key a=key x)=none):idxOf key (l++[x])=(xW (idxOf key l).1 (key x) (some (l.length:Int)),(idxOf key l).2+1):=by
 unfold idxOf;refine Prod.ext ?_ (by simp)
 funext id
 dsimp only[xW];rw[List.findIdx?_append];by_cases e:id=key x
 ·subst e;rw[ai rfl,re h];simp
 ·rw[ag e];have:List.findIdx? (λa=>decide (key a=id)) [x]=none:=by simp;exact λh=>e h.symm
  rw[this];cases l.findIdx? λx=>decide (key x=id)<;>simp
def Q7(hi:i<l.length)(hk:key x=key l[i]):idxOf key (l.set i x)=idxOf key l:=by
 unfold idxOf;refine Prod.ext ?_ (by simp)
 funext id
 dsimp only
 congr 1
 have afg:∀(l:List α)(i:Nat)(hi:i<l.length),key x=key l[i]->(l.set i x).findIdx? (λx=>key x=id)=l.findIdx? λx=>key x=id:=by
  intro l
  induction l with
  |nil=>intro i hi;simp at hi
  |cons a l ih=>
   intro i hi hk;cases i with
   |zero=>simp only[List.set_cons_zero,List.findIdx?_cons];simp at hk;rw[hk]
   |succ i=>simp only[nI,List.findIdx?_cons];rw[ih i (by simpa using hi) (by simpa using hk)]
 exact afg l i hi hk
def Aj(hn:(l.map key).Nodup)(hi:i<l.length):l.findIdx? (λx=>key x=key l[i])=some i:=by
 rw[List.findIdx?_eq_some_iff_getElem];refine⟨hi,by simp,λj hj=>?_⟩;have bX:j<l.length:=by omega
 have:=qx.1 hn j i (by simpa using bX) (by simpa using hi) hj;simpa using this
def map_set(hn:(l.map key).Nodup)(hi:i<l.length)(g:α->α):(l.map λx=>if key x=key l[i] then g x else x)=l.set i (g l[i]):=by
 apply List.ext_getElem (by simp);intro j h1 h2;simp only[bU] at h1;rw[List.getElem_map,List.getElem_set];by_cases e:i=j
 ·subst e;simp
 ·rw[ag e,ag];intro hk;have a:=Aj hn h1;rw[hk,Aj hn hi] at a;exact e (aY.inj a)
end
def fH:Nat->List ch->List oC
 |_,[]=>[]
 |i,k::l=>(k.move.ay,(i:Int))::fH (i+1) l
def mG:∀(i:Nat)(l:List ch),(fH i l).length=l.length
 |_,[]=>rfl
 |i,k::l=>by simp[fH,mG (i+1) l]
def mH:∀(i:Nat)(l:List ch)(j:Nat),(fH i l)[j]?=(l[j]?).map λk=>(k.move.ay,((i+j:Nat):Int))
 |_,[],j=>by simp[fH]
 |i,k::l,0=>by simp[fH]
 |i,k::l,j+1=>by simp only[fH,bT,mH (i+1) l j];rw[show i+1+j=i+(j+1) by omega]
def wR:∀(i:Nat)(l:List ch)(k:ch),fH i (l++[k])=fH i l++[(k.move.ay,((i+l.length:Nat):Int))]
 |i,[],k=>by simp[fH]
 |i,x::l,k=>by simp only[lV,fH,wR (i+1) l k];simp;omega
def BX{i:Nat}{l:List ch}{x:oC}(h:x∈fH i l):∃k∈l,x.1=k.move.ay:=by
 obtain⟨j,hj⟩:=qM h;rw[mH] at hj;cases hk:l[j]? with
 |none=>rw[hk] at hj;cases hj
 |some k=>rw[hk] at hj;cases hj;exact⟨k,bD hk,rfl⟩
def J1{l:List ch}{j:Nat}{k:ch}(i:Nat)(hj:j<l.length)(hk:k.move.ay=l[j].move.ay):fH i (l.set j k)=fH i l:=by
 apply qN;intro n;rw[mH,mH,da];by_cases e:j=n
 ·subst e;rw[ai rfl,ai hj,aj hj];simp[hk]
 ·rw[ag e]
def gB(k:ch):Option Item:=if k.fate=1/\0<k.move.cn then some ⟨k.move.jh+k.move.cn,k.move.ay,k.move.id⟩ else none
abbrev Km(l:List bJ):=idxOf (λx:bJ=>x.id) l
abbrev HB(l:List ch):=idxOf (λx:ch=>x.move.id) l
def fY(b:aZ):C:=⟨b.aB,b.ax,Km b.aB,HB b.ax,fH 0 b.ax,b.ax.filterMap gB,b.clock,b.ay⟩
def rU{k:ch}{x:Item}(h:gB k=some x):x.ay=k.move.ay/\x.id=k.move.id/\x.due=k.move.jh+k.move.cn/\k.fate=1/\0<k.move.cn:=by
 unfold gB at h;split at h
 ·rename_i hc;cases h;exact⟨rfl,rfl,rfl,hc⟩
 ·cases h
section
variable {b:aZ}
def ft.zy(h:ft b):tv (fH 0 b.ax):=by
 unfold tv;rw[qx];intro i j hi hj NX;have vU:i<b.ax.length:=by simpa [mG] using hi
 have NW:j<b.ax.length:=by simpa [mG] using hj
 have e1:=mH 0 b.ax i;have e2:=mH 0 b.ax j;rw[aj hi,aj vU] at e1;rw[aj hj,aj NW] at e2;have e1:=aY.inj e1;have e2:=aY.inj e2;rw[e1,e2];exact qx.1 h.rising i j vU NW NX
def Cz(b:aZ):(b.ax.filterMap gB).length<=b.ax.length:=List.length_filterMap_le _ _
def ft.RU(h:ft b){i j:Nat}(hi:i<b.ax.length)(hj:j<b.ax.length)(he:b.ax[i].move.ay=b.ax[j].move.ay):i=j:=by
 rcases Nat.lt_trichotomy i j with h1|h1|h1
 ·have:=qx.1 h.rising i j hi hj h1;omega
 ·exact h1
 ·have:=qx.1 h.rising j i hj hi h1;omega
def ft.V1(h:ft b){i:Nat}(hi:i<b.ax.length){k:ch}(hk:gB k=none){x:Item}(hx:gB b.ax[i]=some x):
 (x::(b.ax.set i k).filterMap gB).Perm (b.ax.filterMap gB)/\∀y∈(b.ax.set i k).filterMap gB,y.ay≠x.ay:=by
 constructor
 ·have key:∀(l:List ch)(i:Nat)(hi:i<l.length),gB l[i]=some x->(x::(l.set i k).filterMap gB).Perm (l.filterMap gB):=by
   intro l
   induction l with
   |nil=>intro i hi;simp at hi
   |cons a l ih=>
    intro i hi hx;cases i with
    |zero=>
     simp only[List.set_cons_zero,List.getElem_cons_zero] at hx⊢;rw[List.filterMap_cons_none hk,List.filterMap_cons_some hx]
    |succ i=>
     simp only[nI,List.getElem_cons_succ] at hx⊢;have:=ih i (by simpa using hi) hx;cases ha:gB a with
     |none=>rw[List.filterMap_cons_none ha,List.filterMap_cons_none ha];exact this
     |some y=>rw[List.filterMap_cons_some ha,List.filterMap_cons_some ha];exact(bZ.swap _ _ _).trans (this.cons y)
  exact key _ i hi hx
 ·intro y hy he;obtain⟨a,ha,hay⟩:=List.mem_filterMap.1 hy;obtain⟨j,hj⟩:=qM ha;rw[da] at hj;by_cases e:i=j
  ·subst e;rw[ai rfl,ai hi] at hj;cases hj;rw[hk] at hay;cases hay
  ·rw[ag e] at hj;have Vy:=(ao.1 hj).1;have s1:=(rU hay).1;have s2:=(rU hx).1;have hja:b.ax[j]=a:=by rw[aj Vy] at hj;exact aY.inj hj
   exact e (h.RU hi Vy (by rw[hja];omega))
def Ig{l:List ch}{i:Nat}(hi:i<l.length){k:ch}(hk:gB k=none)(hx:gB l[i]=none):(l.set i k).filterMap gB=l.filterMap gB:=by
 induction l generalizing i with
 |nil=>simp at hi
 |cons a l ih=>
  cases i with
  |zero=>simp only[List.set_cons_zero,List.getElem_cons_zero] at hx⊢;rw[List.filterMap_cons_none hk,List.filterMap_cons_none hx]
  |succ i=>
   simp only[nI,List.getElem_cons_succ] at hx⊢;rw[List.filterMap_cons,List.filterMap_cons,ih (by simpa using hi) hx]
end
def Ext(c:C)(hs:List C)(c':C)(fM:List C)(n:Nat):Prop:=∃abx,fM=abx++hs/\(c'::abx).getLast?=some c/\abx.length<=n
def Ext.refl(c:C)(hs:List C)(n:Nat):Ext c hs c hs n:=⟨[],rfl,rfl,aE _⟩
def Ext.trans{c c' c'':C}{hs fM ze:List C}{n m:Nat}(h1:Ext c hs c' fM n)(h2:Ext c' fM c'' ze m):Ext c hs c'' ze (n+m):=by
 obtain⟨m1,rfl,h3,h4⟩:=h1;obtain⟨m2,rfl,h5,h6⟩:=h2;refine⟨m2++m1,by simp,?_,by simp;omega⟩;cases m1 with
 |nil=>simp at h3;subst h3;simpa using h5
 |cons a m1=>
  rw[List.getLast?_cons_cons] at h3;rw[<-lV,List.getLast?_append,h3];rfl
def Ext.mono{c c':C}{hs fM:List C}{n m:Nat}(h:Ext c hs c' fM n)(hm:n<=m):Ext c hs c' fM m:=by
 obtain⟨m1,h1,h3,h4⟩:=h;exact⟨m1,h1,h3,by omega⟩
def Ext.len{c c':C}{hs fM:List C}{n:Nat}(h:Ext c hs c' fM n):fM.length<=hs.length+n:=by
 obtain⟨m1,rfl,h3,h4⟩:=h;simp;omega
def Ext.back{c c':C}{hs fM:List C}{n:Nat}(h:Ext c hs c' fM n):vO hs.length c' fM=(c,hs):=by
 obtain⟨m1,rfl,h3,-⟩:=h
 induction m1 generalizing c' with
 |nil=>simp at h3;subst h3;exact Er (aH _)
 |cons a m1 ih=>
  rw[List.getLast?_cons_cons] at h3;rw[lV];unfold vO;rw[ai (by simp)];exact ih h3
def cL(p:Nat)(x:aZ×List C):HP:=EL (ft x.1) (cP p (fY x.1,x.2))
section
variable {W:World} {L R:LH} {K:VK} {X:WK} {p:Nat} {b:aZ} {hs:List C} {f:aZ×List C->LH} {id:Nat} {a old:bJ}
def NP[i:Lc (cL p) L (b,hs) f](h:∀la lk ti tn vs bx R,ft b->kE p la lk bx vs hs (fY b)->
 (∀M b' fM HJ oP Y,ft b'->kE p la lk oP HJ fM (fY b')->T W (M++f (b',fM)) Y->T W (M++ic p (gP la lk ti tn HJ (fY b'))::sT aL 14 la (p,(fY b').aB)::sT bF 33 lk (p,(fY b').ax)::pF ti (fY b').pX::pF tn (fY b').iF::xd oP::R) Y)->
 T W (ic p (gP la lk ti tn vs (fY b))::sT aL 14 la (p,(fY b).aB)::sT bF 33 lk (p,(fY b).ax)::pF ti (fY b).pX::pF tn (fY b).iF::xd bx::R) X):T W L X:=
 ES (P:=cL p) λR qj w hw=>by
  obtain⟨hg,hw⟩:=hw.and;refine Wt (λla lk ti tn vs bx hc=>h la lk ti tn vs bx R hg hc λM b' fM HJ oP Y YT MP hy=>?_) w hw;refine T.perm (Fj (R:=M++R) MP (T.perm ?_ iq.symm)) (by
   have:=bp (l₁:=M) (l₂:=[ic p (gP la lk ti tn HJ (fY b')),sT aL 14 la (p,(fY b').aB),sT bF 33 lk (p,(fY b').ax),pF ti (fY b').pX,pF tn (fY b').iF,xd oP])|>.append_right R
   simpa using this)
  refine λw' TK=>qj M (b',fM) Y hy w' ?_;have:=(TK.perm iq);exact(St.and_intro YT this).perm iq.symm
def qP[i:Lc (cL p) L (b,hs) f](h:ft b->T W L X):T W L X:=λw hw=>by
 obtain⟨k,hk,_⟩:=i.at_;exact h ((hw.focus hk).and).1 w hw
def Hs{f1:Core->LH}{f2:Nat×List bJ->LH}{f3:(Nat->Option Int)×Nat->LH}{q:Core}[i1:Lc (ic p) L q f1][i2:Lc (sT aL 14 q.la) L (p,b.aB) f2][i3:Lc (pF q.ti) L (Km b.aB) f3](og:b.aB.length<=32)
 (h:T W L (K (.tuple ⟨[.agg ⟨aL ((b.find id).getD zA)⟩,.b (b.find id).isSome]⟩))):T W L (dY (ah p) (nm id) K):=by
 unfold dY;apply ws;intros;refine Eu (t:=q.ti) (x:=Km b.aB) ?_;cases hi:(b.aB.findIdx? λx=>x.id=id) with
 |none=>
  have e1:(Km b.aB).1 id=none:=by show zh _ _=_;rw[hi];rfl
  have e2:b.find id=none:=Cr (key:=λx:bJ=>x.id) hi;rw[e1];rw[e2] at h;simp only[fp,dG,gV,dE] at h⊢;apply ws;intros;exact T.dp h
 |some n=>
  have e1:(Km b.aB).1 id=some (n:Int):=by show zh _ _=_;rw[hi];rfl
  obtain⟨hn,hk,hf⟩:=xv (key:=λx:bJ=>x.id) hi;have e2:b.find id=some b.aB[n]:=hf;rw[e1];rw[e2] at h;simp only[fp,dG,gV,dE] at h⊢;apply ws;intros;refine ae9 (l:=q.la) (x:=b.aB[n]) (aj hn) (by omega) ?_;apply ws;intros;exact T.dp h
def xQ[i:Lc (cL p) L (b,hs) f](h:T W L (K (.tuple ⟨[.agg ⟨aL ((b.find id).getD zA)⟩,.b (b.find id).isSome]⟩))):T W L (dY (ah p) (nm id) K):=by
 have hL:f (b,hs)=L:=i.same;refine NP (p:=p) λla lk ti tn vs bx R hg hc qj=>?_;exact Hs (b:=b) hg.og (qj [] b hs vs bx _ hg hc (by rw[hL];exact h))
def K4{f1:Core->LH}{f2:Nat×List ch->LH}{f3:(Nat->Option Int)×Nat->LH}{q:Core}[i1:Lc (ic p) L q f1][i2:Lc (sT bF 33 q.lk) L (p,b.ax) f2][i3:Lc (pF q.tn) L (HB b.ax) f3](og:b.ax.length<=96)
 (h:T W L (K (.tuple ⟨[.agg ⟨bF ((b.named id).getD zK)⟩,.b (b.named id).isSome]⟩))):T W L (iN (ah p) (nm id) K):=by
 unfold iN;apply ws;intros;refine Eu (t:=q.tn) (x:=HB b.ax) ?_;cases hi:(b.ax.findIdx? λx=>x.move.id=id) with
 |none=>
  have e1:(HB b.ax).1 id=none:=by show zh _ _=_;rw[hi];rfl
  have e2:b.named id=none:=Cr (key:=λx:ch=>x.move.id) hi;rw[e1];rw[e2] at h;simp only[fp,dG,gV,dE] at h⊢;apply ws;intros;exact T.dp h
 |some n=>
  have e1:(HB b.ax).1 id=some (n:Int):=by show zh _ _=_;rw[hi];rfl
  obtain⟨hn,hk,hf⟩:=xv (key:=λx:ch=>x.move.id) hi;have e2:b.named id=some b.ax[n]:=hf;rw[e1];rw[e2] at h;simp only[fp,dG,gV,dE] at h⊢;apply ws;intros;refine W8 (l:=q.lk) (x:=b.ax[n]) (aj hn) (by omega) ?_;apply ws;intros;exact T.dp h
def K3[i:Lc (cL p) L (b,hs) f](h:T W L (K (.tuple ⟨[.agg ⟨bF ((b.named id).getD zK)⟩,.b (b.named id).isSome]⟩))):T W L (iN (ah p) (nm id) K):=by
 have hL:f (b,hs)=L:=i.same;refine NP (p:=p) λla lk ti tn vs bx R hg hc qj=>?_;exact K4 (b:=b) hg.many (qj [] b hs vs bx _ hg hc (by rw[hL];exact h))
def WY[i:Lc (cL p) L (b,hs) f](h:T W L (K (.b (decide (b.ax.length<96))))):T W L (oR (some ⟨p,0,none⟩) K):=by
 have hL:f (b,hs)=L:=i.same;refine NP (p:=p) λla lk ti tn vs bx R hg hc qj=>?_;have fin:=qj [] b hs vs bx _ hg hc (by rw[hL];exact h);unfold oR
 repeat' first|apply ws;intros|apply wb|with_reducible refine PU ?_|fail
 refine T.fin fin ?_
 congr 1
 rw[decide_eq_decide];show((b.ax.length:Nat):Int)<96↔_;omega
def Qz[i:Lc (cL p) L (b,hs) f](h:T W L (K (.i (hs.length:Int)))):T W L (fS (ah p) K):=by
 have hL:f (b,hs)=L:=i.same;refine NP (p:=p) λla lk ti tn vs bx R hg hc qj=>?_;have fin:=qj [] b hs vs bx _ hg hc (by rw[hL];exact h);unfold fS;refine zv ?_;refine EA ?_;refine acB (p:=p) ?_;apply ws;intros;have:(gP la lk ti tn vs (fY b)).vs.length=hs.length:=by show vs.reverse.length=_;rw[jC,hc.len]
 rw[this];exact fin
def Lw(hg:ft b){n:Nat}(hn:n<b.aB.length)(hk:b.aB[n].id=a.id):fY (b.bC a)={fY b with aB:=b.aB.set n {a with ay:=b.aB[n].ay}}:=by
 have e:(b.bC a).aB=b.aB.set n {a with ay:=b.aB[n].ay}:=by
  show(b.aB.map λx=>if x.id=a.id then{a with ay:=x.ay} else x)=_;have:=map_set (key:=λx:bJ=>x.id) hg.ids hn λx=>{a with ay:=x.ay};simp only[hk] at this;exact this
 unfold fY;have e9:Km (b.aB.set n {a with ay:=b.aB[n].ay})=Km b.aB:=Q7 hn hk.symm;rw[e,e9]
 rfl
def ft.bC(hg:ft b){n:Nat}(hn:n<b.aB.length)(hk:b.aB[n].id=a.id)(ha:AG {a with ay:=b.aB[n].ay}):ft (b.bC a):=by
 have e:(b.bC a).aB=b.aB.set n {a with ay:=b.aB[n].ay}:=congrArg C.aB (Lw hg hn hk);have afY:(b.bC a).aB.map (·.id)=b.aB.map (·.id):=by
  rw[e,List.map_set];refine List.ext_getElem (by simp) λi h1 h2=>?_;rw[List.getElem_set];split
  ·rename_i he;subst he;simp[hk]
  ·rfl
 refine⟨by rw[afY];exact hg.ids,hg.names,by rw[e,jm];exact hg.og,hg.many,?_,hg.TJ,hg.rising,hg.dP,hg.clock,?_⟩
 ·rw[e];intro x hx;rcases eE hx with hx|hx
  ·exact hg.T0 x hx
  ·subst hx;exact ha
 ·rw[e,jm];exact hg.ay
def KW[i:Lc (cL p) L (b,hs) f](hf:b.find a.id=some old)(ha:AG {a with ay:=old.ay})(hl:hs.length<900000)
 (h:∀fM,Ext (fY b) hs (fY (b.bC a)) fM 1->T W (f (b.bC a,fM)) (K (.i 0))):T W L (k8 (ah p) (aL a) K):=by
 refine NP (p:=p) λla lk ti tn vs bx R hg hc qj=>?_;have og:=hg.og;obtain⟨n,hi⟩:∃n,(b.aB.findIdx? λx=>x.id=a.id)=some n:=by
  cases hi:(b.aB.findIdx? λx=>x.id=a.id) with
  |none=>rw[show b.find a.id=none from Cr (key:=λx:bJ=>x.id) hi] at hf;cases hf
  |some n=>exact⟨n,rfl⟩
 obtain⟨hn,hk,hff⟩:=xv (key:=λx:bJ=>x.id) hi;have e2:b.find a.id=some b.aB[n]:=hff;rw[hf] at e2;have e3:=aY.inj e2;subst e3;have e1:(Km b.aB).1 a.id=some (n:Int):=by show zh _ _=_;rw[hi];rfl
 have Ib:=Lw hg hn hk;have Q9:(gP la lk ti tn vs (fY b)).vs.length<1000000:=by show vs.reverse.length<_;rw[jC,hc.len];omega
 unfold k8;apply ws;intros;refine Hs (b:=b) hg.og ?_;rw[hf];simp only[dG,dE];apply ws;intros;refine Eu (t:=ti) (x:=(fY b).pX) ?_;rw[show(fY b).pX.1 a.id=some (n:Int) from e1];simp only[dG,dE];apply ws;intros;refine acJ (l:=la) (y:=b.aB[n]) (aj hn) (show b.aB.length<_ by omega) Q9 λr4 r1 r2=>?_;apply ws;intros;refine fh (fh (fh (fh (fh ?_))));have Kt:∀oP,(∀x∈bx,x∈oP)->(r4,aL b.aB[n])∈oP->(r1,[.p (some (ad la 0))])∈oP->(r2,[.i (n:Int)])∈oP->kE p la lk oP (Fh r4 r1 r2::vs) (fY b::hs) (fY (b.bC a)):=by
  intro oP BL m1 m2 m3;refine⟨?_,hc.mono BL⟩;have:=Ev.XU (p:=p) (la:=la) (lk:=lk) (c:=fY (b.bC a)) m1 m2 m3 (by rw[Ib];simpa using hn);have ee:{fY (b.bC a) with aB:=(fY (b.bC a)).aB.set n b.aB[n]}=fY b:=by
   rw[Ib];simp only[jM,List.set_getElem_self]
   rfl
  rw[ee] at this;exact this
 have fin:=λoP c1=>qj [] (b.bC a) (fY b::hs) (Fh r4 r1 r2::vs) oP _ (hg.bC hn hk ha) c1 (h _ ⟨[fY b],rfl,rfl,aH _⟩);rw[Ib] at fin;simp only[gP,yP] at fin;exact fin _ (Ib▸Kt _ (λx hx=>by simp[hx]) (by simp) (by simp) (by simp))
end
section
variable {W:World} {L R:LH} {K:VK} {X:WK} {p:Nat} {b:aZ} {hs:List C} {f:aZ×List C->LH} {id:Nat} {a old:bJ}
def RL{q:Core}{f1:Core->LH}[i:Lc (ic p) L q f1](hl:q.vs.length<1000000)(hs:0<=q.ay/\q.ay<1000000)
 (h:∀r,T W (Sep.pt r [.p (some (ad p 0))]::f1 {q with vs:=q.vs++[BT r],ay:=q.ay+1}) (K (.i (q.ay+1)))):T W L (oQ (ah p) K):=by
 unfold oQ
 repeat' first|apply ws;intros|apply wb|with_reducible refine Oh ?_|fail
 rename_i r;rw[aW (by omega)];have i2:=i.next {q with ay:=q.ay+1};refine xe (p:=p) (q:={q with ay:=q.ay+1}) hl rfl rfl ?_;have i3:=i.next {q with vs:=q.vs++[BT r],ay:=q.ay+1};apply ws;intros;exact h r
def aZ.more(b:aZ)(a:bJ):aZ:={b with ay:=b.ay+1,aB:=b.aB++[{a with ay:=b.ay+1}]}
def ft.more(hg:ft b)(hf:b.find a.id=none)(og:b.aB.length<32)(ha:AG {a with ay:=b.ay+1}):ft (b.more a):=by
 have uZ:=hg.ay;have many:=hg.many;refine⟨?_,hg.names,by show(b.aB++[_]).length<=32;simp;omega,hg.many,?_,hg.TJ,hg.rising,λk hk=>⟨(hg.dP k hk).1,by have:=(hg.dP k hk).2;show _<=b.ay+1;omega⟩,hg.clock,by show b.ay+1=(((b.aB++[_]).length:Nat):Int)+(b.ax.length:Int);simp;omega⟩
 ·show((b.aB++[_]).map _).Nodup;rw[cY];rw[List.nodup_append];refine⟨hg.ids,by simp,?_⟩;intro x hx y hy;simp at hy;subst hy;obtain⟨z,hz,rfl⟩:=cA.1 hx;have:=nJ.1 hf z hz;simpa using this
 ·intro x hx;rcases dF.1 hx with hx|hx
  ·exact hg.T0 x hx
  ·simp at hx;subst hx;exact ha
def abw(hf:b.find a.id=none):fY (b.more a)={fY b with ay:=b.ay+1,pX:=(xW (fY b).pX.1 a.id (some (b.aB.length:Int)),(fY b).pX.2+1),aB:=b.aB++[{a with ay:=b.ay+1}]}:=by
 have e9:Km (b.aB++[{a with ay:=b.ay+1}])=(xW (Km b.aB).1 a.id (some (b.aB.length:Int)),(Km b.aB).2+1):=Cq (key:=λx:bJ=>x.id) (x:={a with ay:=b.ay+1}) hf;unfold fY aZ.more;dsimp only;rw[e9]
def Lr{m:Nat->Option Int}{k:Nat}{v:Int}{n:Nat}(h:m k=none):(xW (xW m k (some v)) k none,n+1-1)=(m,n):=by
 refine Prod.ext ?_ rfl
 funext j
 dsimp only[xW];by_cases e:j=k
 ·subst e;rw[ai rfl,h]
 ·rw[ag e,ag e]
def XW[i:Lc (cL p) L (b,hs) f](hf:b.find a.id=none)(og:b.aB.length<32)(ha:AG {a with ay:=b.ay+1})(hl:hs.length<900000)
 (h:∀fM,Ext (fY b) hs (fY (b.more a)) fM 3->T W (f (b.more a,fM)) (K (.i 0))):T W L (mX (ah p) (aL a) K):=by
 refine NP (p:=p) λla lk ti tn vs bx R hg hc qj=>?_;have uZ:=hg.ay;have many:=hg.many;have o7:(Km b.aB).1 a.id=none:=by show zh _ _=_;rw[re (key:=λx:bJ=>x.id) hf];rfl
 have Q9:vs.reverse.length<900000:=by rw[jC,hc.len];omega
 unfold mX;apply ws;intros;refine P6 (l:=la) ?_;apply ws;intros;refine fW (by show decide (((b.aB.length:Nat):Int)>=32)=false;simp;omega) ?_;apply ws;intros;refine Eu (t:=ti) (x:=(fY b).pX) ?_;rw[show(fY b).pX.1 a.id=none from o7];simp only[fp,gV];apply ws;intros;refine RL (p:=p) (q:=gP la lk ti tn vs (fY b)) (by show vs.reverse.length<_;omega) (by show 0<=b.ay/\b.ay<_;omega) λr3=>?_;apply ws;intros;refine P6 (l:=la) ?_;apply ws;intros;refine RK (t:=ti) (x:=(fY b).pX) (show b.aB.length<=1000 by omega) o7 ?_;apply ws;intros;refine xe (p:=p) (by show(vs.reverse++[_]).length<_;simp at Q9⊢;omega) rfl rfl ?_;apply ws;intros;refine Xh (l:=la) (x:={a with ay:=b.ay+1}) (show b.aB.length<_ by omega) (by show((vs.reverse++[_])++[_]).length<_;simp at Q9⊢;omega) λr4 r5=>?_;apply ws;intros;rename_i r1 r2;refine fh (fh (fh (fh (fh ?_))));have Ib:=abw (a:=a) hf;have Kt:∀oP,(∀x∈bx,x∈oP)->(r1,[.p (some (ad p 0))])∈oP->(r2,aL {a with ay:=b.ay+1})∈oP->(r3,[.p (some (ad p 0))])∈oP->(r4,[.p (some (ad la 0))])∈oP->(r5,[.i (b.aB.length:Int)])∈oP->
                                                                                                                                                                                                    kE p la lk oP (CE r4 r5::Ud r1 r2::BT r3::vs) ({fY b with ay:=b.ay+1,pX:=(xW (fY b).pX.1 a.id (some (b.aB.length:Int)),(fY b).pX.2+1)}::{fY b with ay:=b.ay+1}::fY b::hs) (fY (b.more a)):=by
  intro oP BL m1 m2 m3 m4 m5;refine⟨?_,?_,?_,hc.mono BL⟩
  ·have:=Ev.ZE (p:=p) (la:=la) (lk:=lk) (c:=fY (b.more a)) m4 m5 (by show b.aB.length<=(b.aB++[_]).length;simp);have ee:{fY (b.more a) with aB:=(fY (b.more a)).aB.take b.aB.length}={fY b with ay:=b.ay+1,pX:=(xW (fY b).pX.1 a.id (some (b.aB.length:Int)),(fY b).pX.2+1)}:=by
    rw[Ib];dsimp only;rw[DG];rfl
   rw[ee] at this;exact this
  ·have:=Ev.open_ (p:=p) (la:=la) (lk:=lk) (c:={fY b with ay:=b.ay+1,pX:=(xW (fY b).pX.1 a.id (some (b.aB.length:Int)),(fY b).pX.2+1)}) (x:={a with ay:=b.ay+1}) m1 m2 (show b.aB.length+1<=1000 by omega) (by show(xW _ _ _ _).isSome=true;unfold xW;rw[ai rfl];rfl) (Lr (show(fY b).pX.1 a.id=none from o7));exact this
  ·exact Ev.next (c:={fY b with ay:=b.ay+1}) m3 (by show aa.wrap (b.ay+1-1)=b.ay;rw[aW (by omega)];omega)
 have fin:=λoP c1=>qj [] (b.more a) _ (CE r4 r5::Ud r1 r2::BT r3::vs) oP _ (hg.more hf og ha) c1 (h _ ⟨[{fY b with ay:=b.ay+1,pX:=(xW (fY b).pX.1 a.id (some (b.aB.length:Int)),(fY b).pX.2+1)},{fY b with ay:=b.ay+1},fY b],rfl,rfl,aH _⟩);rw[Ib] at fin;simp only[gP,yP] at fin;exact fin _ (Ib▸Kt _ (λx hx=>by simp[hx]) (by repeat (first|exact dQ.head _|apply dQ.tail)) (by repeat (first|exact dQ.head _|apply dQ.tail)) (by repeat (first|exact dQ.head _|apply dQ.tail)) (by repeat (first|exact dQ.head _|apply dQ.tail)) (by repeat (first|exact dQ.head _|apply dQ.tail)))
end
section
variable {W:World} {L R:LH} {K:VK} {X:WK} {p:Nat} {b:aZ} {hs:List C} {f:aZ×List C->LH} {id:Nat} {k:ch} {asked t:cM} {fate:Int}
instance{x1 x2 x3 x4:Value}{x y:Int}{n:Nat}:Wr [x1,x2,x3,x4] 0 ([.i x,.i y]++(nm n++[])) (gW ⟨x,y,n⟩):=⟨by simp[over,gW,nm],by simp[nm],λv h=>qH ⟨x,y,n⟩ v (by simpa [gW] using h)⟩
def T.Pv{la lk ti tn:Nat}{vs:LV}{st:List oC}{e e':List Item}{x y:Int}(he:e.Perm e')(h:T W (ic p ⟨la,lk,ti,tn,vs,st,e',x,y⟩::R) X):T W (ic p ⟨la,lk,ti,tn,vs,st,e,x,y⟩::R) X:=T.JD (q:=⟨la,lk,ti,tn,vs,st,e,x,y⟩) he h
def Pr(k:ch):Item:=⟨k.move.jh+k.move.cn,k.move.ay,k.move.id⟩
def V9(hk:KG k)(h:T W L (K (.tuple ⟨[.agg ⟨gW (Pr k)⟩,.b (gB k).isSome]⟩))):T W L (u4 (bF k) K):=by
 have h1:=hk.cn;have h2:=hk.jh;unfold u4;apply ws;intros;rw[aW (by omega)];have hd:(gB k).isSome=decide (k.fate=1/\0<k.move.cn):=by
  unfold gB;split
  ·rename_i hc;simp[hc]
  ·rename_i hc;simp[hc]
 rw[hd] at h;apply dj<;>intro g
 ·have g:k.fate=1:=by simpa using g
  apply ws;intros;refine T.fin (by exact T.dp h) ?_
  congr 3
  simp[g]
 ·have g: ¬k.fate=1:=by simpa using g
  apply ws;intros;refine T.fin (by exact T.dp h) ?_
  congr 3
  simp[g]
def ft.kY(hg:ft b)(hf:b.named t.id=none)(many:b.ax.length<96)(hk:KG ⟨asked,{t with ay:=b.ay+1,jh:=b.clock},fate⟩):ft (b.kY asked t fate):=by
 have uZ:=hg.ay;refine⟨hg.ids,?_,hg.og,by show(b.ax++[_]).length<=96;simp;omega,hg.T0,?_,?_,?_,hg.clock,by show b.ay+1=_+(((b.ax++[_]).length:Nat):Int);simp;show _=(b.aB.length:Int)+_;omega⟩
 ·show((b.ax++[_]).map _).Nodup;rw[cY,List.nodup_append];refine⟨hg.names,by simp,?_⟩;intro x hx y hy;simp at hy;subst hy;obtain⟨z,hz,rfl⟩:=cA.1 hx;have:=nJ.1 hf z hz;simpa using this
 ·intro x hx;rcases dF.1 hx with hx|hx
  ·exact hg.TJ x hx
  ·simp at hx;subst hx;exact hk
 ·show(b.ax++[_]).Pairwise _;rw[List.pairwise_append];refine⟨hg.rising,by simp,λx hx y hy=>?_⟩;simp at hy;subst hy;have:=(hg.dP x hx).2;show _<b.ay+1;omega
 ·intro x hx;rcases dF.1 hx with hx|hx
  ·have:=hg.dP x hx;show _/\_<=b.ay+1;omega
  ·simp at hx;subst hx;show 1<=b.ay+1/\b.ay+1<=b.ay+1;omega
abbrev tU(b:aZ)(asked t:cM)(fate:Int):ch:=⟨asked,{t with ay:=b.ay+1,jh:=b.clock},fate⟩
def abz(hf:b.named t.id=none):fY (b.kY asked t fate)={fY b with ay:=b.ay+1,ax:=b.ax++[tU b asked t fate],iF:=(xW (fY b).iF.1 t.id (some (b.ax.length:Int)),(fY b).iF.2+1),dP:=(fY b).dP++[(b.ay+1,(b.ax.length:Int))],ends:=(fY b).ends++(gB (tU b asked t fate)).toList}:=by
 have e9:HB (b.ax++[tU b asked t fate])=(xW (HB b.ax).1 t.id (some (b.ax.length:Int)),(HB b.ax).2+1):=Cq (key:=λx:ch=>x.move.id) (x:=tU b asked t fate) hf;unfold fY aZ.kY;dsimp only;rw[e9,wR,List.filterMap_append,aC]
 congr 1
def QA{waits:Bool}[i:Lc (cL p) L (b,hs) f](hf:b.named t.id=none)(many:b.ax.length<96)(hk:KG (tU b asked t fate))(hw:fate=if waits then 1 else 0)(hl:hs.length<900000)
 (h:∀fM,Ext (fY b) hs (fY (b.kY asked t fate)) fM 4->T W (f (b.kY asked t fate,fM)) (K (.i 0))):T W L (iO (ah p) (aM asked) (aM t) waits K):=by
 refine NP (p:=p) λla lk ti tn vs bx R hg hc qj=>?_;have uZ:=hg.ay;have og:=hg.og;have o7:(HB b.ax).1 t.id=none:=by show zh _ _=_;rw[re (key:=λx:ch=>x.move.id) hf];rfl
 have Q9:vs.reverse.length<900000:=by rw[jC,hc.len];omega
 unfold iO;apply ws;intros;refine PU (l:=lk) ?_;apply ws;intros;refine fW (by show decide (((b.ax.length:Nat):Int)>=96)=false;simp;omega) ?_;apply ws;intros;refine Eu (t:=tn) (x:=(fY b).iF) ?_;rw[show(fY b).iF.1 t.id=none from o7];simp only[fp,gV];apply ws;intros;rename_i r1 r2 r3 r4;have main:T W (Sep.pt r4 (bF ⟨asked,t,fate⟩)::Sep.pt r3 (aM t)::Sep.pt r2 (aM asked)::Sep.pt r1 [.p (some (ad p 0))]::ic p (gP la lk ti tn vs (fY b))::sT aL 14 la (p,(fY b).aB)::sT bF 33 lk (p,(fY b).ax)::pF ti (fY b).pX::pF tn (fY b).iF::xd bx::R) (iO.j1 K r1 r4 r3):=by
  unfold iO.j1;apply ws;intros;refine RL (p:=p) (q:=gP la lk ti tn vs (fY b)) (by show vs.reverse.length<_;omega) (by show 0<=b.ay/\b.ay<_;omega) λr5=>?_;apply ws;intros;refine Xa (l:=lk) (x:=tU b asked t fate) (show b.ax.length<_ by omega) (by show(vs.reverse++[_]).length<_;simp at Q9⊢;omega) λr6 r7=>?_;apply ws;intros;refine RK (t:=tn) (x:=(fY b).iF) (show b.ax.length<=1000 by omega) o7 ?_;apply ws;intros;refine Rv (p:=p) hg.zy (by show(fH 0 b.ax).length<_;rw[mG];omega) (λx hx=>by
   obtain⟨k,hk,e⟩:=BX hx
   have:=(hg.dP k hk).2
   show x.1<b.ay+1
   omega) ?_
  apply ws;intros;refine xe (p:=p) (by show((vs.reverse++[_])++[_]).length<_;simp at Q9⊢;omega) rfl rfl ?_;apply ws;intros;refine V9 (k:=tU b asked t fate) hk ?_;apply ws;intros;rename_i r8;have Ib:=abz (asked:=asked) (fate:=fate) hf;have Kt:∀oP,(∀x∈bx,x∈oP)->(r1,[.p (some (ad p 0))])∈oP->(r3,aM t)∈oP->(r4,bF (tU b asked t fate))∈oP->(r5,[.p (some (ad p 0))])∈oP->(r6,[.p (some (ad lk 0))])∈oP->(r7,[.i (b.ax.length:Int)])∈oP->
   kE p la lk oP (FK r1 r3 r4::wF r6 r7::BT r5::vs) ({fY b with ay:=b.ay+1,ax:=b.ax++[tU b asked t fate]}::{fY b with ay:=b.ay+1}::fY b::hs)
    {fY b with ay:=b.ay+1,ax:=b.ax++[tU b asked t fate],iF:=(xW (fY b).iF.1 t.id (some (b.ax.length:Int)),(fY b).iF.2+1),dP:=(fY b).dP++[(b.ay+1,(b.ax.length:Int))]}:=by
   intro oP BL m1 m2 m3 m4 m5 m6;refine⟨?_,?_,?_,hc.mono BL⟩
   ·exact Ev.Q4 (p:=p) (la:=la) (lk:=lk) (c:={fY b with ay:=b.ay+1,ax:=b.ax++[tU b asked t fate],iF:=(xW (fY b).iF.1 t.id (some (b.ax.length:Int)),(fY b).iF.2+1),dP:=(fY b).dP++[(b.ay+1,(b.ax.length:Int))]}) (t:=t) (k:=tU b asked t fate) (l0:=(fY b).dP) m1 m2 m3 (show b.ax.length+1<=1000 by omega) (by show(xW _ _ _ _).isSome=true;unfold xW;rw[ai rfl];rfl)
     (by have:=(hg.kY hf many hk).zy
         have e:fH 0 (b.kY asked t fate).ax=(fY b).dP++[(b.ay+1,(b.ax.length:Int))]:=congrArg C.dP Ib
         rw[e] at this;exact this)
     (by show(fH 0 b.ax++[_]).length<_;rw[aw,mG];simp;omega) rfl (Lr (show(fY b).iF.1 t.id=none from o7))
   ·have:=Ev.ZD (p:=p) (la:=la) (lk:=lk) (c:={fY b with ay:=b.ay+1,ax:=b.ax++[tU b asked t fate]}) m5 m6 (by show b.ax.length<=(b.ax++[_]).length;simp);have ee:({({fY b with ay:=b.ay+1,ax:=b.ax++[tU b asked t fate]}:C) with ax:=(b.ax++[tU b asked t fate]).take b.ax.length}:C)={fY b with ay:=b.ay+1}:=by rw[DG];rfl
    rw[ee] at this;exact this
   ·exact Ev.next (c:={fY b with ay:=b.ay+1}) m4 (by show aa.wrap (b.ay+1-1)=b.ay;rw[aW (by omega)];omega)
  cases hd:gB (tU b asked t fate) with
  |none=>
   simp only[fp];apply ws;intros;refine fh (fh (fh (fh (fh (fh (fh (fh ?_)))))));rw[hd] at Ib;simp only[Option.toList_none,bO] at Ib;have fin:=λoP c1=>qj [] (b.kY asked t fate) _ (FK r1 r3 r4::wF r6 r7::BT r5::vs) oP _ (hg.kY hf many hk) c1 (h _ ⟨[{fY b with ay:=b.ay+1,ax:=b.ax++[tU b asked t fate]},{fY b with ay:=b.ay+1},fY b],rfl,rfl,by simp⟩);rw[Ib] at fin;simp only[gP,yP] at fin;exact fin _ (Kt _ (λx hx=>by simp[hx]) (by repeat (first|exact dQ.head _|apply dQ.tail)) (by repeat (first|exact dQ.head _|apply dQ.tail)) (by repeat (first|exact dQ.head _|apply dQ.tail)) (by repeat (first|exact dQ.head _|apply dQ.tail)) (by repeat (first|exact dQ.head _|apply dQ.tail)) (by repeat (first|exact dQ.head _|apply dQ.tail)))
  |some x=>
   have ex:Pr (tU b asked t fate)=x:=by
    unfold gB at hd;split at hd
    ·cases hd;rfl
    ·cases hd
   simp only[dG];apply ws;intros;simp only[ig,aC];rw[ex];refine KJ (p:=p) (e':=(fY b).ends++[x]) (by have:=Cz b;show(b.ax.filterMap gB).length<_;omega) (bZ.refl _) ?_;apply ws;intros;refine xe (p:=p) (by show(((vs.reverse++[_])++[_])++[_]).length<_;simp at Q9⊢;omega) rfl rfl ?_;apply ws;intros;refine fh (fh (fh (fh (fh (fh (fh (fh ?_)))))));rw[hd] at Ib;simp only[Option.toList_some] at Ib;have hsx:=(rU hd).1;have VH:∀oP,(∀x∈bx,x∈oP)->(r1,[.p (some (ad p 0))])∈oP->(r3,aM t)∈oP->(r4,bF (tU b asked t fate))∈oP->(r5,[.p (some (ad p 0))])∈oP->(r6,[.p (some (ad lk 0))])∈oP->(r7,[.i (b.ax.length:Int)])∈oP->(r8,gW x)∈oP->
                                                     kE p la lk oP (Ob r1 r8::FK r1 r3 r4::wF r6 r7::BT r5::vs) ({fY b with ay:=b.ay+1,ax:=b.ax++[tU b asked t fate],iF:=(xW (fY b).iF.1 t.id (some (b.ax.length:Int)),(fY b).iF.2+1),dP:=(fY b).dP++[(b.ay+1,(b.ax.length:Int))]}::{fY b with ay:=b.ay+1,ax:=b.ax++[tU b asked t fate]}::{fY b with ay:=b.ay+1}::fY b::hs)
                                                      (fY (b.kY asked t fate)):=by
    intro oP BL m1 m2 m3 m4 m5 m6 m7;refine⟨?_,Kt oP BL m1 m2 m3 m4 m5 m6⟩;rw[Ib];exact Ev.Q3 (p:=p) (la:=la) (lk:=lk) (c:={fY b with ay:=b.ay+1,ax:=b.ax++[tU b asked t fate],iF:=(xW (fY b).iF.1 t.id (some (b.ax.length:Int)),(fY b).iF.2+1),dP:=(fY b).dP++[(b.ay+1,(b.ax.length:Int))],ends:=(fY b).ends++[x]}) (e':=(fY b).ends) m1 m7
     (by have:=Cz b;show(b.ax.filterMap gB++[x]).length<_;simp;omega) (bp (l₁:=[x])) (λy hy=>by
      obtain⟨k,hk,e⟩:=List.mem_filterMap.1 hy
      have h1:=(rU e).1
      have h2:=(hg.dP k hk).2
      rw[hsx]
      show y.ay≠b.ay+1
      omega)
   have fin:=λoP c1=>qj [] (b.kY asked t fate) _ (Ob r1 r8::FK r1 r3 r4::wF r6 r7::BT r5::vs) oP _ (hg.kY hf many hk) c1 (h _ ⟨[{fY b with ay:=b.ay+1,ax:=b.ax++[tU b asked t fate],iF:=(xW (fY b).iF.1 t.id (some (b.ax.length:Int)),(fY b).iF.2+1),dP:=(fY b).dP++[(b.ay+1,(b.ax.length:Int))]},{fY b with ay:=b.ay+1,ax:=b.ax++[tU b asked t fate]},{fY b with ay:=b.ay+1},fY b],rfl,rfl,by simp⟩);rw[Ib] at fin VH;simp only[gP,yP] at fin;exact fin _ (VH _ (λx hx=>by simp[hx]) (by repeat (first|exact dQ.head _|apply dQ.tail)) (by repeat (first|exact dQ.head _|apply dQ.tail)) (by repeat (first|exact dQ.head _|apply dQ.tail)) (by repeat (first|exact dQ.head _|apply dQ.tail)) (by repeat (first|exact dQ.head _|apply dQ.tail)) (by repeat (first|exact dQ.head _|apply dQ.tail)) (by repeat (first|exact dQ.head _|apply dQ.tail)))
 apply dj<;>intro g
 ·rw[g] at hw;apply ws;intros;rw[ai rfl] at hw;rw[hw] at main;exact main
 ·rw[g,ag (by decide)] at hw;rw[hw] at main;exact main
def VV(hg:ft b){n:Nat}(hn:n<b.ax.length)(h1:b.ax[n].fate=1)(Fa:fate=2\/fate=3\/fate=4):fY (b.fate b.ax[n].move.id fate)={fY b with ax:=b.ax.set n {b.ax[n] with fate:=fate},ends:=(b.ax.set n {b.ax[n] with fate:=fate}).filterMap gB}:=by
 have e:(b.fate b.ax[n].move.id fate).ax=b.ax.set n {b.ax[n] with fate:=fate}:=by
  show(b.ax.map λk=>if k.move.id=b.ax[n].move.id/\k.fate=1 then{k with fate:=fate} else k)=_;have:=map_set (key:=λx:ch=>x.move.id) hg.names hn λk=>if k.fate=1 then{k with fate:=fate} else k
  rw[ai h1] at this;rw[<-this];apply eg;intro k hk;by_cases e1:k.move.id=b.ax[n].move.id<;>by_cases e2:k.fate=1<;>simp[e1,e2]
 have e9:HB (b.ax.set n {b.ax[n] with fate:=fate})=HB b.ax:=Q7 (key:=λx:ch=>x.move.id) hn rfl;unfold fY;rw[e,e9,J1 (k:={b.ax[n] with fate:=fate}) 0 hn rfl]
 rfl
def ft.ad5(hg:ft b){n:Nat}(hn:n<b.ax.length)(h1:b.ax[n].fate=1)(Fa:fate=2\/fate=3\/fate=4):ft (b.fate b.ax[n].move.id fate):=by
 have e:(b.fate b.ax[n].move.id fate).ax=b.ax.set n {b.ax[n] with fate:=fate}:=congrArg C.ax (VV hg hn h1 Fa);have em:∀{β:Type}(g:ch->β),(∀k:ch,g {k with fate:=fate}=g k)->(b.fate b.ax[n].move.id fate).ax.map g=b.ax.map g:=by
  intro β g hgg;rw[e,List.map_set];refine List.ext_getElem (by simp) λi h1 h2=>?_;rw[List.getElem_set];split
  ·rename_i he;subst he;simp[hgg]
  ·rfl
 have hk:=hg.TJ _ (bP hn);refine⟨hg.ids,by rw[em (λx=>x.move.id) λ_=>rfl];exact hg.names,hg.og,by rw[e,jm];exact hg.many,hg.T0,?_,?_,?_,hg.clock,by rw[e,jm];exact hg.ay⟩
 ·rw[e];intro x hx;rcases eE hx with hx|hx
  ·exact hg.TJ x hx
  ·subst hx;exact⟨hk.asked,hk.move,hk.PM,hk.QT,hk.vP,hk.xq,by show 0<=fate/\fate<=4;omega,hk.cn,hk.jh⟩
 ·have h2:=hg.rising;have:((b.fate b.ax[n].move.id fate).ax.map λx=>x.move.ay).Pairwise (·<·):=by
   rw[em (λx=>x.move.ay) λ_=>rfl];exact List.pairwise_map.2 h2
  exact List.pairwise_map.1 this
 ·rw[e];intro x hx;rcases eE hx with hx|hx
  ·exact hg.dP x hx
  ·subst hx;exact hg.dP b.ax[n] (bP hn)
def abb[i:Lc (cL p) L (b,hs) f](hn:b.named id=some k)(h1:k.fate=1)(Fa:fate=2\/fate=3\/fate=4)(hl:hs.length<900000)
 (h:∀fM,Ext (fY b) hs (fY (b.fate id fate)) fM 2->T W (f (b.fate id fate,fM)) (K (.i 0))):T W L (dk (ah p) (nm id) fate K):=by
 refine NP (p:=p) λla lk ti tn vs bx R hg hc qj=>?_;have og:=hg.og;have many:=hg.many;obtain⟨n,hi⟩:∃n,(b.ax.findIdx? λx=>x.move.id=id)=some n:=by
  cases hi:(b.ax.findIdx? λx=>x.move.id=id) with
  |none=>rw[show b.named id=none from Cr (key:=λx:ch=>x.move.id) hi] at hn;cases hn
  |some n=>exact⟨n,rfl⟩
 obtain⟨hnl,hk,hff⟩:=xv (key:=λx:ch=>x.move.id) hi;have e2:b.named id=some b.ax[n]:=hff;rw[hn] at e2;have e3:=aY.inj e2;subst e3;subst hk;have e1:(HB b.ax).1 b.ax[n].move.id=some (n:Int):=by show zh _ _=_;rw[hi];rfl
 have Ib:=VV hg hnl h1 Fa;have hkg:=hg.TJ _ (bP hnl);have Q9:vs.reverse.length<900000:=by rw[jC,hc.len];omega
 have E9:gB {b.ax[n] with fate:=fate}=none:=by unfold gB;rw[ag];show ¬(fate=1/\_);omega
 unfold dk;apply ws;intros;refine K4 (b:=b) hg.many ?_;rw[hn];simp only[dG,dE];apply ws;intros;rename_i r1 r2 r3;unfold dk.j1;refine fW (by simpa using h1) ?_;unfold dk.j2;refine fW (by simp;omega) ?_;refine fW (by simp;omega) ?_;apply ws;intros;refine V9 (k:=b.ax[n]) hkg ?_;apply ws;intros;rename_i r4;have main:∀(q:Core)(zo:LV)(hO:List C)(c2:C),q=gP la lk ti tn zo c2->c2={fY b with ends:=q.ends}->q.ends.Perm ((b.ax.set n {b.ax[n] with fate:=fate}).filterMap gB)->zo.length<=vs.length+1->
                                                          (∀oP,(∀x∈bx,x∈oP)->(r1,[.p (some (ad p 0))])∈oP->(r4,gW (Pr b.ax[n]))∈oP->kE p la lk oP zo hO {fY b with ends:=(b.ax.set n {b.ax[n] with fate:=fate}).filterMap gB})->
                                                          Ext (fY b) hs (fY (b.fate b.ax[n].move.id fate)) ({fY b with ends:=(b.ax.set n {b.ax[n] with fate:=fate}).filterMap gB}::hO) 2->
                                                          T W (Sep.pt r4 (gW (Pr b.ax[n]))::Sep.pt r3 (bF b.ax[n])::Sep.pt r2 (nm b.ax[n].move.id)::Sep.pt r1 [.p (some (ad p 0))]::ic p q::sT aL 14 la (p,b.aB)::sT bF 33 lk (p,b.ax)::pF ti (Km b.aB)::pF tn (HB b.ax)::xd bx::R) (dk.j4 K r1 r2 r3 fate):=by
  rintro q zo hO c2 rfl Ri hpm afi Kt afD;unfold dk.j4;have hlv:(gP la lk ti tn zo c2).vs.length<1000000:=by show zo.reverse.length<_;rw[jC];rw[jC] at Q9;omega
  apply ws;intros;refine Eu (t:=tn) (x:=HB b.ax) ?_;rw[e1];simp only[dG,dE];apply ws;intros;refine acD (l:=lk) (y:=b.ax[n]) (x:={b.ax[n] with fate:=fate}) (aj hnl) (by omega) hlv λr5 r6 r7=>?_;apply ws;intros;refine fh (fh (fh (fh (fh (fh (fh ?_))))));refine T.Pv (e':=(b.ax.set n {b.ax[n] with fate:=fate}).filterMap gB) hpm ?_;have fin:=λoP(c1:kE p la lk oP (CD r5 r6 r7::zo) ({fY b with ends:=(b.ax.set n {b.ax[n] with fate:=fate}).filterMap gB}::hO) (fY (b.fate b.ax[n].move.id fate)))=>qj [] (b.fate b.ax[n].move.id fate) _ (CD r5 r6 r7::zo) oP _ (hg.ad5 hnl h1 Fa) c1 (h _ afD);have VH:∀oP,(∀x∈bx,x∈oP)->(r1,[.p (some (ad p 0))])∈oP->(r4,gW (Pr b.ax[n]))∈oP->(r5,bF b.ax[n])∈oP->(r6,[.p (some (ad lk 0))])∈oP->(r7,[.i (n:Int)])∈oP->
                                                       kE p la lk oP (CD r5 r6 r7::zo) ({fY b with ends:=(b.ax.set n {b.ax[n] with fate:=fate}).filterMap gB}::hO) (fY (b.fate b.ax[n].move.id fate)):=by
   intro oP BL m1 m2 m3 m4 m5;refine⟨?_,Kt oP BL m1 m2⟩;have:=Ev.XT (p:=p) (la:=la) (lk:=lk) (c:=fY (b.fate b.ax[n].move.id fate)) m3 m4 m5 (by rw[Ib];simpa using hnl);have ee:{fY (b.fate b.ax[n].move.id fate) with ax:=(fY (b.fate b.ax[n].move.id fate)).ax.set n b.ax[n]}={fY b with ends:=(b.ax.set n {b.ax[n] with fate:=fate}).filterMap gB}:=by
    rw[Ib];simp only[jM,List.set_getElem_self]
    rfl
   rw[ee] at this;exact this
  rw[Ib] at fin VH;simp only[gP,yP] at fin;rw[Ri];exact fin _ (VH _ (λx hx=>by simp[hx]) (by repeat (first|exact dQ.head _|apply dQ.tail)) (by repeat (first|exact dQ.head _|apply dQ.tail)) (by repeat (first|exact dQ.head _|apply dQ.tail)) (by repeat (first|exact dQ.head _|apply dQ.tail)) (by repeat (first|exact dQ.head _|apply dQ.tail)))
 cases hd:gB b.ax[n] with
 |none=>
  simp only[fp];apply ws;intros;unfold dk.j3;refine ph ?_;have hes:=Ig hnl E9 hd;have VI:({fY b with ends:=(b.ax.set n {b.ax[n] with fate:=fate}).filterMap gB}:C)=fY b:=by rw[hes];rfl
  refine main (gP la lk ti tn vs (fY b)) vs hs (fY b) rfl rfl (by rw[hes];exact bZ.refl _) (by omega) (λoP BL _ _=>by rw[VI];exact hc.mono BL) (by rw[VI];exact⟨[fY b],rfl,rfl,by simp⟩)
 |some x=>
  have ex:Pr b.ax[n]=x:=by
   unfold gB at hd;split at hd
   ·cases hd;rfl
   ·cases hd
  obtain⟨YK,Ec⟩:=hg.V1 hnl E9 hd;simp only[dG];apply ws;intros;simp only[ig,aC];have hsx:b.ax[n].move.ay=x.ay:=(rU hd).1.symm;refine Nb (p:=p) (q:=gP la lk ti tn vs (fY b)) (by have:=Cz b;show(b.ax.filterMap gB).length<_;omega) (λy e' hy hpy=>?_) (λHC=>?_)
  ·apply ws;intros;unfold dk.j3;refine wQ ?_;apply ws;intros;refine xe (p:=p) (by show vs.reverse.length<_;omega) rfl rfl ?_;apply ws;intros;have hpe:e'.Perm ((b.ax.set n {b.ax[n] with fate:=fate}).filterMap gB):=Ix YK hpy (by rw[hy,<-ex]) Ec;have:=main ⟨la,lk,ti,tn,vs.reverse++[aaP r1 r4],(fY b).dP,e',(fY b).clock,(fY b).ay⟩ (aaP r1 r4::vs) (fY b::hs) {fY b with ends:=e'} (by simp[gP]) rfl hpe (by simp) (λoP BL m1 m2=>⟨?_,hc.mono BL⟩) ⟨[{fY b with ends:=(b.ax.set n {b.ax[n] with fate:=fate}).filterMap gB},fY b],rfl,rfl,by simp⟩
   ·exact this
   ·rw[ex] at m2;exact Ev.end_ (p:=p) (la:=la) (lk:=lk) (c:={fY b with ends:=(b.ax.set n {b.ax[n] with fate:=fate}).filterMap gB}) (e':=(fY b).ends) m1 m2 (by have h3:=List.length_filterMap_le gB (b.ax.set n {b.ax[n] with fate:=fate});rw[jm] at h3;show List.length (List.filterMap _ _)<_;omega) (YK.symm.trans (bp (l₁:=[x])))
  ·refine aQ ?_ (HC x (YK.mem_iff.1 (by simp)));rw[<-ex]
end
def kq(d c:bJ):LV:=aL d++aL c
def CZ(d c:bJ):∀v∈kq d c,v.oneCell'=true:=pv (iT _) (iT _)
instance{d c:bJ}:Ln (kq d c) 28:=⟨rfl⟩
instance{d c:bJ}:Gt (kq d c) 12 (.i d.aq):=⟨rfl⟩
instance{d c:bJ}:Gt (kq d c) 26 (.i c.aq):=⟨rfl⟩
section
variable {d c e:bJ} {i:Int} {x1 x2 x3 x4 x5 x6 x7 x8 x9 Fz Fy Fx Fw JN N8 N7 ZW ZV x19 x20 x21 x22 x23 x24 x25 x26 x27 x28:Value}
instance:Sub (kq d c) 0 28 (kq d c):=⟨rfl,λj v h=>by rw[aC];exact h⟩
instance:Sub (kq d c) 0 14 (aL d):=⟨rfl,λj v h=>by rw[aC];unfold kq;rw[bh (ao.1 h).1];exact h⟩
instance:Sub (kq d c) 14 14 (aL c):=⟨rfl,λj v h=>by
 have hl:(aL d).length=14:=rfl
 unfold kq
 rw[iW (by omega),hl,show 14+j-14=j by omega];exact h⟩
instance:Wr (kq d c) 0 (aL e) (kq e c):=⟨rfl,by show 14<=28;decide,iT e⟩
instance:Wr (kq d c) 14 (aL e) (kq d e):=⟨rfl,by show 28<=28;decide,iT e⟩
instance:Wr (kq d c) 12 [.i i] (kq {d with aq:=i} c):=⟨rfl,by show 13<=28;decide,λv h=>by simp at h;subst h;rfl⟩
instance:Wr (kq d c) 26 [.i i] (kq d {c with aq:=i}):=⟨rfl,by show 27<=28;decide,λv h=>by simp at h;subst h;rfl⟩
instance:Wr [x1,x2,x3,x4,x5,x6,x7,x8,x9,Fz,Fy,Fx,Fw,JN,N8,N7,ZW,ZV,x19,x20,x21,x22,x23,x24,x25,x26,x27,x28] 0 (kq d c) (kq d c):=⟨rfl,aH _,CZ d c⟩
instance:Wr [x1,x2,x3,x4,x5,x6,x7,x8,x9,Fz,Fy,Fx,Fw,JN,N8,N7,ZW,ZV,x19,x20,x21,x22,x23,x24,x25,x26,x27,x28] 0 (aL d++(aL c++[])) (kq d c):=⟨rfl,aH _,by rw[bO];exact CZ d c⟩
instance:Wr [x1,x2,x3,x4,x5,x6,x7,x8,x9,Fz,Fy,Fx,Fw,JN,N8,N7,ZW,ZV,x19,x20,x21,x22,x23,x24,x25,x26,x27,x28] 0 [.u 0,.u 0,.u 0,.u 0,.u 0,.u 0,.u 0,.u 0,.u 0,.u 0,.i 0,.i 0,.i 0,.i 0,.u 0,.u 0,.u 0,.u 0,.u 0,.u 0,.u 0,.u 0,.u 0,.u 0,.i 0,.i 0,.i 0,.i 0] (kq zA zA):=⟨rfl,aH _,CZ zA zA⟩
end
def uB(d c:Option bJ)(t:cM):Int:=match d with
 |none=>19
 |some d=>match c with
  |none=>20
  |some c=>if d.ba≠c.ba then 21 else if d.ba≠t.ba then 22 else if 8<=d.aq then 30 else if 8<=c.aq then 31 else 0
def YX{f:Int}(h0:0<=f)(h1:f<16):(dm .i64 .and f 8!=0)=decide (8<=f):=by
 rw[cf];simp only[fP,ne_eq,decide_eq_true_eq];rw[Wz h0 (by omega)];unfold has;omega
section
variable {W:World} {L R:LH} {K:VK} {X:WK} {p:Nat} {b:aZ} {hs:List C} {f:aZ×List C->LH} {t:cM} {d c:bJ} {n:Nat}
def Yu[i:Lc (cL p) L (b,hs) f](h0:∀d c,uB (b.find t.bw) (b.find t.aP) t≠0->T W L (K (.tuple ⟨[.agg ⟨kq d c⟩,.i (uB (b.find t.bw) (b.find t.aP) t)]⟩)))
 (h:∀d c,b.find t.bw=some d->b.find t.aP=some c->uB (b.find t.bw) (b.find t.aP) t=0->T W L (K (.tuple ⟨[.agg ⟨kq d c⟩,.i 0]⟩))):T W L (Ak (ah p) (aM t) K):=by
 refine qP (p:=p) λhg=>?_;unfold Ak
 repeat' first|apply ws;intros|apply wb|with_reducible refine xQ ?_|fail
 cases hd:b.find t.bw with
 |none=>
  rw[hd] at h0;simp only[fp,gV];have:=h0 zA zA (by show(19:Int)≠0;decide);apply ws;intros;exact T.dp this
 |some d=>
  cases hc:b.find t.aP with
  |none=>
   rw[hd,hc] at h0;simp only[fp,gV,dG,dE];have:=h0 zA zA (by show(20:Int)≠0;decide);apply ws;intros;exact T.dp this
  |some c=>
   rw[hd,hc] at h0 h;have fd:=(hg.T0 d (nA hd)).aq;have fc:=(hg.T0 c (nA hc)).aq;simp only[dG,dE];apply ws;intros;apply dj<;>intro g1
   ·have g1:d.ba≠c.ba:=by simpa using g1
    have e:uB (some d) (some c) t=21:=ai g1;rw[e] at h0;have:=h0 zA zA (by decide);apply ws;intros;exact T.dp this
   have g1: ¬d.ba≠c.ba:=by simpa using g1
   apply ws;intros;apply dj<;>intro g2
   ·have g2:d.ba≠t.ba:=by simpa using g2
    have e:uB (some d) (some c) t=22:=by unfold uB;dsimp only;rw[ag g1,ai g2]
    rw[e] at h0;have:=h0 zA zA (by decide);apply ws;intros;exact T.dp this
   have g2: ¬d.ba≠t.ba:=by simpa using g2
   apply ws;intros;rw[YX fd.1 fd.2];apply ga<;>intro g3
   ·have e:uB (some d) (some c) t=30:=by unfold uB;dsimp only;rw[ag g1,ag g2,ai (g3)]
    rw[e] at h0;have:=h0 zA zA (by decide);apply ws;intros;exact T.dp this
   apply ws;intros;rw[YX fc.1 fc.2];apply ga<;>intro g4
   ·have e:uB (some d) (some c) t=31:=by unfold uB;dsimp only;rw[ag g1,ag g2,ag g3,ai (g4)]
    rw[e] at h0;have:=h0 zA zA (by decide);apply ws;intros;exact T.dp this
   have:=h d c rfl rfl (by unfold uB;dsimp only;rw[ag g1,ag g2,ag g3,ag g4]);apply ws;intros;exact T.dp this
def adY{f:Int}(h0:0<=f)(h1:f<256):(dm .i64 .and f 16!=0)=decide (has f 16):=by
 rw[cf];simp only[fP,ne_eq,decide_eq_true_eq];rw[acs h0 h1,bm]
def adX{f:Int}(h0:0<=f)(h1:f<256):(dm .i64 .and f 32!=0)=decide (has f 32):=by
 rw[cf];simp only[fP,ne_eq,decide_eq_true_eq];rw[acr h0 h1,bm]
def aat{f:Int}(h0:0<=f)(h1:f<256):(dm .i64 .and f 64!=0)=decide (has f 64):=by
 rw[cf];simp only[fP,ne_eq,decide_eq_true_eq];rw[WA h0 h1,bm]
def VN{f:Int}(h0:0<=f)(h1:f<256):(dm .i64 .and f 128!=0)=decide (has f 128):=by
 rw[cf];simp only[fP,ne_eq,decide_eq_true_eq];rw[RA h0 h1,bm]
def afR{f:Int}(h0:0<=f)(h1:f<256):(dm .i64 .and f 4!=0)=decide (has f 4):=by
 rw[cf];simp only[fP,ne_eq,decide_eq_true_eq];rw[Nr h0 h1,bm]
def SF(G:mY W)(hd:xR d)(hc:xR c)(ht:t.aU<bG)(hf:0<=t.aq/\t.aq<256)(hz:t.aU=0->has t.aq 16\/has t.aq 32)
 (h:T W L (K (.tuple ⟨[.agg ⟨nm (dh t d c).1⟩,.i (dh t d c).2]⟩))):T W L (gI (kq d c) (aM t) K):=by
 unfold gI;have j3:∀(r1 r2 r3 r4 n1:Nat),n1<bG->((if has t.aq 32/\(if has t.aq 32 then min n1 (iR c false) else n1)=0 then((0:Nat),(34:Int)) else(if has t.aq 32 then min n1 (iR c false) else n1,0))=dh t d c)->
  T W (Sep.pt r4 (nm n1)::Sep.pt r3 (nm 0)::Sep.pt r2 (aM t)::Sep.pt r1 (kq d c)::L) (gI.j3 K r2 r4 r1 r3):=by
  intro r1 r2 r3 r4 n1 hn1 he;unfold gI.j3;apply ws;intros;rw[adX hf.1 hf.2];apply ga<;>intro g1
  ·rw[ai g1] at he
   repeat' first|apply ws;intros|apply wb|with_reducible first|refine K7 G hc ?_|refine aaH ?_|refine vR ?_|fail
   apply ga<;>intro g2
   ·rw[ai ⟨g1,g2⟩] at he;rw[<-he] at h;rw[g2];apply ws;intros;exact T.dp h
   ·rw[ag (λhh=>g2 hh.2)] at he;rw[<-he] at h;apply ws;intros;exact T.dp h
  ·rw[ag (λhh=>g1 hh.1),ag g1] at he;rw[<-he] at h;apply ws;intros;exact T.dp h
 have j2:∀(r1 r2 r3 r4:Nat),T W (Sep.pt r4 (nm (if t.aU=0 then bG-1 else t.aU))::Sep.pt r3 (nm 0)::Sep.pt r2 (aM t)::Sep.pt r1 (kq d c)::L) (gI.j2 K r2 r4 r1 r3):=by
  intro r1 r2 r3 r4;have hn0:(if t.aU=0 then bG-1 else t.aU)<bG:=by unfold bG at *;split<;>omega
  unfold gI.j2;apply ws;intros;rw[adY hf.1 hf.2];apply ga<;>intro g1
  ·repeat' first|apply ws;intros|apply wb|with_reducible first|refine K7 G hd ?_|refine aaH ?_|refine vR ?_|fail
   apply ga<;>intro g2
   ·have he:dh t d c=(0,33):=by unfold dh;simp only[g1,g2,if_true,true_and]
    rw[he] at h;rw[g2];apply ws;intros;exact T.dp h
   ·refine j3 _ _ _ _ _ (by have:=GP (p:=true) hd;omega) ?_;unfold dh;simp only[g1,g2,if_true,true_and,if_false]
  ·refine j3 _ _ _ _ _ hn0 ?_;unfold dh;simp only[g1,if_false,false_and]
 have aiU:(has t.aq 16\/has t.aq 32)->t.aU=0->(if t.aU=0 then bG-1 else t.aU)=bG-1:=λ_ h=>ai h
 repeat' first|apply ws;intros|apply wb|with_reducible refine Hr hf ?_|fail
 rename_i r1 r2 r3 r4;apply ga<;>intro g1
 ·repeat' first|apply ws;intros|apply wb|with_reducible refine vR ?_|fail
  unfold gI.j1;apply ga<;>intro g2
  ·refine Qj ⟨zE _,G.Yr⟩ ?_;apply ws;intros;have:=j2 r1 r2 r3 r4;rw[ai g2] at this;exact this
  ·have:=j2 r1 r2 r3 r4;rw[ag g2] at this;exact this
 ·unfold gI.j1;refine ph ?_;have:=j2 r1 r2 r3 r4;rw[ag (λhh=>g1 (hz hh))] at this;exact this
end
structure aim(t:cM):Prop where
 aq:0<=t.aq/\t.aq<=255
 id0:t.id≠0
 idM:t.id≠bG-1
 tog:jy t.aq
 fresh:t.ay=0/\t.jh=0
 cn:0<=t.cn/\t.cn<=1073741824
 waits:0<t.cn->has t.aq 2
 ends:ke t.aq->t.pending≠0/\(0<=t.ba/\t.ba<4294967296)/\(0<=t.code/\t.code<65536)
 cy: ¬ke t.aq->t.bw≠t.aP/\t.pending=0/\(t.aU=0->has t.aq 16\/has t.aq 32)/\(1<=t.ba/\t.ba<4294967296)/\(1<=t.code/\t.code<65536)
def Dy{t:cM}(h:nG t=0):aim t:=by
 unfold nG at h;by_cases h1:t.aq<0\/255<t.aq
 ·rw[ai h1] at h;exact aQ h (by decide)
 rw[ag h1] at h;by_cases h2:t.id=0
 ·rw[ai h2] at h;exact aQ h (by decide)
 rw[ag h2] at h;by_cases h3:t.id=bG-1
 ·rw[ai h3] at h;exact aQ h (by decide)
 rw[ag h3] at h;by_cases h4: ¬jy t.aq
 ·rw[ai h4] at h;exact aQ h (by decide)
 rw[ag h4] at h;by_cases h5:t.ay≠0\/t.jh≠0
 ·rw[ai h5] at h;exact aQ h (by decide)
 rw[ag h5] at h;by_cases h6:t.cn<0\/1073741824<t.cn\/0<t.cn/\ ¬has t.aq 2
 ·rw[ai h6] at h;exact aQ h (by decide)
 rw[ag h6] at h;have hw:0<t.cn->has t.aq 2:=λh0=>bm.1 λhh=>h6 (.inr (.inr ⟨h0,hh⟩));by_cases he:ke t.aq
 ·rw[ai he] at h;by_cases g1:t.pending=0
  ·rw[ai g1] at h;exact aQ h (by decide)
  rw[ag g1] at h;by_cases g2:t.ba<0\/4294967296<=t.ba
  ·rw[ai g2] at h;exact aQ h (by decide)
  rw[ag g2] at h;by_cases g3:t.code<0\/65536<=t.code
  ·rw[ai g3] at h;exact aQ h (by decide)
  exact⟨by omega,h2,h3,bm.1 h4,by omega,by omega,hw,λ_=>⟨g1,by omega,by omega⟩,λhh=>aQ he hh⟩
 ·rw[ag he] at h;by_cases g1:t.bw=0
  ·rw[ai g1] at h;exact aQ h (by decide)
  rw[ag g1] at h;by_cases g2:t.aP=0
  ·rw[ai g2] at h;exact aQ h (by decide)
  rw[ag g2] at h;by_cases g3:t.bw=t.aP
  ·rw[ai g3] at h;exact aQ h (by decide)
  rw[ag g3] at h;by_cases g4:t.pending≠0
  ·rw[ai g4] at h;exact aQ h (by decide)
  rw[ag g4] at h;by_cases g5:t.aU=0/\ ¬has t.aq 16/\ ¬has t.aq 32
  ·rw[ai g5] at h;exact aQ h (by decide)
  rw[ag g5] at h;by_cases g6:t.ba<1\/4294967296<=t.ba
  ·rw[ai g6] at h;exact aQ h (by decide)
  rw[ag g6] at h;by_cases g7:t.code<1\/65536<=t.code
  ·rw[ai g7] at h;exact aQ h (by decide)
  refine⟨by omega,h2,h3,bm.1 h4,by omega,by omega,hw,λhh=>aQ hh he,λ_=>⟨g3,by omega,λh0=>?_,by omega,by omega⟩⟩;by_cases q:has t.aq 16
  ·exact .inl q
  ·by_cases q2:has t.aq 32
   ·exact .inr q2
   ·exact aQ ⟨h0,q,q2⟩ g5
section
variable {b:aZ} {t:cM} {d c:bJ} {n:Nat} {q:Bool}
def xD(hg:ft b){id:Nat}(hd:b.find id=some d):AG d/\d.id=id:=⟨hg.T0 d (nA hd),by simpa using List.find?_some hd⟩
def QU{s:Bool}(hd:AG d)(hm:(more d s n q).2=0):AG (more d s n q).1/\(more d s n q).1.id=d.id/\(more d s n q).1.ay=d.ay:=by
 obtain⟨⟨i1,i2,i3,i4,i5,i6,i7,i8,i9⟩,i10,i11,i12⟩:=hd;unfold more at hm⊢;cases s with
 |false=>
  simp only[cJ,if_false] at hm⊢;by_cases h1:bG<=d.cp+d.cq+n
  ·rw[ai h1] at hm;exact aQ hm (by show ¬(32:Int)=0;decide)
  by_cases h2:has d.aq 4/\iR d false<n
  ·rw[ag h1,ai h2] at hm;exact aQ hm (by show ¬(34:Int)=0;decide)
  rw[ag h1,ag h2];cases q with
  |true=>exact⟨⟨⟨i1,i2,i3,by show d.cp+n<bG;omega,i5,i6,i7,i8,i9⟩,i10,i11,i12⟩,rfl,rfl⟩
  |false=>exact⟨⟨⟨i1,i2,i3,i4,by show d.cq+n<bG;omega,i6,i7,i8,i9⟩,i10,i11,i12⟩,rfl,rfl⟩
 |true=>
  simp only[if_true] at hm⊢;by_cases h1:bG<=d.dp+d.dq+n
  ·rw[ai h1] at hm;exact aQ hm (by show ¬(32:Int)=0;decide)
  by_cases h2:has d.aq 2/\iR d true<n
  ·rw[ag h1,ai h2] at hm;exact aQ hm (by show ¬(33:Int)=0;decide)
  rw[ag h1,ag h2];cases q with
  |true=>exact⟨⟨⟨i1,by show d.dp+n<bG;omega,i3,i4,i5,i6,i7,i8,i9⟩,i10,i11,i12⟩,rfl,rfl⟩
  |false=>exact⟨⟨⟨i1,i2,by show d.dq+n<bG;omega,i4,i5,i6,i7,i8,i9⟩,i10,i11,i12⟩,rfl,rfl⟩
def Ng(hd:AG d){yes:Prop}[Decidable yes]:AG (close d yes)/\(close d yes).id=d.id/\(close d yes).ay=d.ay:=by
 obtain⟨⟨i1,i2,i3,i4,i5,i6,i7,i8,i9⟩,i10,i11,i12⟩:=hd;unfold close;split
 ·have hf:0<=d.aq%8+8/\d.aq%8+8<16:=by omega
  exact⟨⟨⟨i1,i2,i3,i4,i5,i6,i7,by show vS (d.aq%8+8);unfold vS;omega,i9⟩,⟨i10.1,i10.2.1,by show 0<=d.aq%8+8/\d.aq%8+8<=65535;omega⟩,hf,i12⟩,rfl,rfl⟩
 ·exact⟨⟨⟨i1,i2,i3,i4,i5,i6,i7,i8,i9⟩,i10,i11,i12⟩,rfl,rfl⟩
def Iy{a x:bJ}{id:Nat}(hx:b.find id=some x)(kN:a.id≠id):(b.bC a).find id=some x:=by
 unfold aZ.find at *;show(b.aB.map λx=>if x.id=a.id then{a with ay:=x.ay} else x).find? _=_;rw[List.find?_map];have:((λy:bJ=>decide (y.id=id))∘λx=>if x.id=a.id then{a with ay:=x.ay} else x)=λy:bJ=>decide (y.id=id):=by
  funext y
  simp only[Function.comp];by_cases e:y.id=a.id<;>simp[e]
 rw[this,hx];have hxi:x.id=id:=by simpa using List.find?_some hx
 simp only[fw];rw[ag (by rw[hxi];exact λh=>kN h.symm)]
def wJ(hg:ft b){id:Nat}{k:ch}(hk:b.named id=some k):KG k/\k.move.id=id:=⟨hg.TJ k (nA hk),by simpa using List.find?_some hk⟩
end
section
variable {W:World} {L R:LH} {K:VK} {X:WK} {p:Nat} {b:aZ} {hs:List C} {f:aZ×List C->LH} {t:cM} {d c:bJ} {n:Nat}
def SE(h1:nG t=0)(h2: ¬ke t.aq)(h3:b.named t.id=none)(h4:b.find t.bw=some d)(h5:b.find t.aP=some c)(h6:uB (some d) (some c) t=0):
 jU t (b.named t.id) (b.find t.bw) (b.find t.aP) b.ax.length=(if 96<=b.ax.length then(35,0)
  else if(dh t d c).2≠0 then((dh t d c).2,0)
  else if(more d true (dh t d c).1 (decide (has t.aq 2))).2≠0 then((more d true (dh t d c).1 (decide (has t.aq 2))).2,0)
  else if(more c false (dh t d c).1 (decide (has t.aq 2))).2≠0 then((more c false (dh t d c).1 (decide (has t.aq 2))).2,0)
  else(0,(dh t d c).1)):=by
 unfold uB at h6;dsimp only at h6;unfold jU;rw[ag (by simpa using h1),ag h2,h3,h4,h5];dsimp only;by_cases g1:d.ba≠c.ba
 ·rw[ai g1] at h6;cases h6
 by_cases g2:d.ba≠t.ba
 ·rw[ag g1,ai g2] at h6;cases h6
 by_cases g3:8<=d.aq
 ·rw[ag g1,ag g2,ai g3] at h6;cases h6
 by_cases g4:8<=c.aq
 ·rw[ag g1,ag g2,ag g3,ai g4] at h6;cases h6
 rw[ag g1,ag g2,ag g3,ag g4]
def aah(G:mY W)(ht:Ab t)(Vr:kL t)(hl:hs.length<800000)[i:Lc (cL p) L (b,hs) f]
 (h:∀fM,Ext (fY b) hs (fY (b.move t).2) fM 6->T W (f ((b.move t).2,fM)) (K (.i (b.move t).1))):T W L (qd (ah p) (aM t) K):=by
 have hL:f (b,hs)=L:=i.same;refine qP (p:=p) λhg=>?_;have bad:∀r:Int,r≠0->(jU t (b.named t.id) (b.find t.bw) (b.find t.aP) b.ax.length).1=r->T W L (K (.i r)):=by
  intro r hr he;have e:b.move t=(r,b):=by unfold aZ.move;dsimp only;rw[he,ai hr]
  rw[e] at h;have:=h hs (Ext.refl _ _ _);rw[hL] at this;exact this
 unfold qd
 repeat' first|apply ws;intros|apply wb|with_reducible refine LC G ht ?_|fail
 apply dj<;>intro g1
 ·have g1:nG t≠0:=by simpa using g1
  have:=bad (nG t) g1 (by unfold jU;rw[ai g1]);exact T.dp this
 have g1:nG t=0:=by simpa using g1
 have ck:=Dy g1;have hf:0<=t.aq/\t.aq<256:=by have:=ck.aq;omega
 repeat' first|apply ws;intros|apply wb|with_reducible refine K9 hf ?_|fail
 apply ga<;>intro g2
 ·have:=bad 6 (by decide) (by unfold jU;rw[ag (by simpa using g1),ai g2]);exact T.dp this
 repeat' first|apply ws;intros|apply wb|with_reducible refine K3 ?_|fail
 cases hn:b.named t.id with
 |some k=>
  obtain⟨hk,_⟩:=wJ hg hn;simp only[dG,dE]
  repeat' first|apply ws;intros|apply wb|with_reducible refine LD hf hk.vP ?_|fail
  have:=bad (tt t k.asked) (tr _ _) (by unfold jU;rw[ag (by simpa using g1),ag g2,hn]);exact T.dp this
 |none=>
 simp only[fp,gV];have key:∀(d c:Option bJ),b.find t.bw=d->b.find t.aP=c->uB d c t≠0->(jU t (b.named t.id) (b.find t.bw) (b.find t.aP) b.ax.length).1=uB d c t:=by
  intro d c hd hc kN;rw[hd,hc,hn];unfold jU;rw[ag (by simpa using g1),ag g2];dsimp only;cases d with
  |none=>rfl
  |some d=>
   cases c with
   |none=>rfl
   |some c=>
    unfold uB at kN⊢;dsimp only at kN⊢;by_cases g1:d.ba≠c.ba
    ·rw[ai g1,ai g1]
    by_cases g2:d.ba≠t.ba
    ·rw[ag g1,ai g2,ag g1,ai g2]
    by_cases g3:8<=d.aq
    ·rw[ag g1,ag g2,ai g3,ag g1,ag g2,ai g3]
    by_cases g4:8<=c.aq
    ·rw[ag g1,ag g2,ag g3,ai g4,ag g1,ag g2,ag g3,ai g4]
    rw[ag g1,ag g2,ag g3,ag g4] at kN;exact aQ rfl kN
 apply ws;intros;refine Yu (λd c kN=>?_) (λd c hd hc he=>?_)
 ·apply ws;intros;refine mP (by simpa using kN) ?_;have:=bad _ kN (key _ _ rfl rfl kN);exact T.dp this
 apply ws;intros;obtain⟨gd,EI⟩:=xD hg hd;obtain⟨gc,Ef⟩:=xD hg hc;rw[hd,hc] at he;have Rj:=SE (b:=b) g1 g2 hn hd hc he;refine fW (by simp) ?_
 repeat' first|apply ws;intros|apply wb|with_reducible refine WY ?_|fail
 by_cases g3:96<=b.ax.length
 ·rw[ar (by omega)];apply ws;intros;have:=bad 35 (by decide) (by rw[Rj,ai g3]);exact T.dp this
 rw[av (by omega)];rw[ag g3] at Rj;obtain⟨kN,aip,Y0,aiM,aap⟩:=ck.cy g2
 repeat' first|apply ws;intros|apply wb|with_reducible refine SF G gd.ok gc.ok ht.aU hf Y0 ?_|fail
 apply dj<;>intro g4
 ·have g4:(dh t d c).2≠0:=by simpa using g4
  have:=bad _ g4 (by rw[Rj,ai g4]);exact T.dp this
 have g4: ¬(dh t d c).2≠0:=by simpa using g4
 rw[ag g4] at Rj;have Jj:(dh t d c).1<bG:=by
  have h1:=GP (p:=true) gd.ok;have h2:=GP (p:=false) gc.ok;have h3:=ht.aU;unfold dh bG at *;dsimp only
  repeat' split
  all_goals first|(show(0:Nat)<_;omega)|(show min _ _<_;omega)|(show _<_;split<;>omega)|omega
 generalize hN:(dh t d c).1=N at *
 repeat' first|apply ws;intros|apply wb|with_reducible first|refine u7 hf ?_|refine ZN G gd.ok Jj ⟨gd.aq.1,by have:=gd.aq.2;omega⟩ ?_|fail
 apply dj<;>intro g5
 ·have g5:(more d true N (decide (has t.aq 2))).2≠0:=by simpa using g5
  have:=bad _ g5 (by rw[Rj,ai g5]);exact T.dp this
 have g5: ¬(more d true N (decide (has t.aq 2))).2≠0:=by simpa using g5
 rw[ag g5] at Rj
 repeat' first|apply ws;intros|apply wb|with_reducible first|refine u7 hf ?_|refine Xe G gc.ok Jj ⟨gc.aq.1,by have:=gc.aq.2;omega⟩ ?_|fail
 apply dj<;>intro g6
 ·have g6:(more c false N (decide (has t.aq 2))).2≠0:=by simpa using g6
  have:=bad _ g6 (by rw[Rj,ai g6]);exact T.dp this
 have g6: ¬(more c false N (decide (has t.aq 2))).2≠0:=by simpa using g6
 rw[ag g6] at Rj;obtain⟨md,mdi,mds⟩:=QU (q:=decide (has t.aq 2)) gd (bm.1 g5);obtain⟨mc,mci,mcs⟩:=QU (q:=decide (has t.aq 2)) gc (bm.1 g6);have e:b.move t=(0,b.D0 t N):=by unfold aZ.move;dsimp only;rw[Rj];rfl
 rw[e] at h;have em:b.D0 t N=((b.bC (close (more d true N (decide (has t.aq 2))).1 (has t.aq 64))).bC (close (more c false N (decide (has t.aq 2))).1 (has t.aq 128))).kY t {t with aU:=N} (waits t):=by unfold aZ.D0;rw[hd,hc]
 rw[em] at h;have last:∀(D C:bJ)(r1 r2 r3 r4:Nat),AG D->AG C->D.id=d.id->C.id=c.id->D.ay=d.ay->C.ay=c.ay->
    (∀fM,Ext (fY b) hs (fY (((b.bC D).bC C).kY t {t with aU:=N} (waits t))) fM 6->T W (f (((b.bC D).bC C).kY t {t with aU:=N} (waits t),fM)) (K (.i 0)))->
    T W (Sep.pt r4 (nm N)::Sep.pt r3 (kq D C)::Sep.pt r2 (bF zK)::Sep.pt r1 (aM t)::L) (qd.j2 K r3 (ah p) r1 r4):=by
  intro D C r1 r2 r3 r4 gD gC hDi hCi hDs hCs hh;have hfd:b.find D.id=some d:=by rw[hDi,EI];exact hd
  have eD:({D with ay:=d.ay}:bJ)=D:=by rw[<-hDs]
  have eC:({C with ay:=c.ay}:bJ)=C:=by rw[<-hCs]
  have hfc:(b.bC D).find C.id=some c:=Iy (by rw[hCi,Ef];exact hc) (by rw[hDi,hCi,EI,Ef];exact kN);have uZ:=hg.ay;have og:=hg.og;have many:=hg.many;unfold qd.j2;apply ws;intros;refine KW (p:=p) hfd (by rw[eD];exact gD) (by omega) λBL x1=>?_;have l1:=x1.len;have i1:=i.next (b.bC D,BL);apply ws;intros;refine KW (p:=p) hfc (by rw[eC];exact gC) (by omega) λhO x2=>?_;have l2:=x2.len;have i2:=i.next ((b.bC D).bC C,hO)
  repeat' first|apply ws;intros|apply wb|with_reducible refine u7 hf ?_|fail
  have hkg:KG (tU ((b.bC D).bC C) t {t with aU:=N} (waits t)):=by
   have cl:=hg.clock;refine⟨ht,⟨ht.id,ht.bw,ht.aP,Jj,ht.pending,ht.cn,ht.ba,ht.code,ht.aq,?_,?_⟩,Vr,Vr,hf,hf,?_,ck.cn,cl⟩
   ·show vS (b.ay+1);unfold vS;omega
   ·show vS b.clock;unfold vS;omega
   ·show 0<=waits t/\waits t<=4;unfold Md.waits;split<;>decide
  have NT:((b.bC D).bC C).named ({t with aU:=N}:cM).id=none:=hn;refine QA (p:=p) (waits:=decide (has t.aq 2)) NT (show b.ax.length<96 by omega) hkg (by unfold Md.waits;by_cases q:has t.aq 2<;>simp[q]) (by omega) λxf x3=>?_;apply ws;intros;have:=hh xf (((x1.trans x2).trans x3).mono (by omega));exact T.dp this
 obtain⟨cd,cdi,cds⟩:=Ng (yes:=has t.aq 64) md;obtain⟨cc,cci,ccs⟩:=Ng (yes:=has t.aq 128) mc;have aai:∀(D:bJ)(r1 r2 r3 r4:Nat),D=close (more d true N (decide (has t.aq 2))).1 (has t.aq 64)->T W (Sep.pt r4 (nm N)::Sep.pt r3 (kq D (more c false N (decide (has t.aq 2))).1)::Sep.pt r2 (bF zK)::Sep.pt r1 (aM t)::L) (qd.j1 K r1 r3 (ah p) r4):=by
  intro D r1 r2 r3 r4 hD;unfold qd.j1;apply ws;intros;rw[VN hf.1 hf.2];have fin:=last D (close (more c false N (decide (has t.aq 2))).1 (has t.aq 128)) r1 r2 r3 r4 (by rw[hD];exact cd) cc (by rw[hD,cdi,mdi]) (by rw[cci,mci]) (by rw[hD,cds,mds]) (by rw[ccs,mcs]) (by rw[hD];exact h);apply ga<;>intro q
  ·apply ws;intros;rw[ae0 mc.aq.1 mc.aq.2];unfold close at fin;rw[ai q] at fin;exact fin
  ·unfold close at fin;rw[ag q] at fin;exact fin
 apply ws;intros;rw[aat hf.1 hf.2];apply ga<;>intro q
 ·apply ws;intros;rw[ae0 md.aq.1 md.aq.2];exact aai _ _ _ _ _ (by unfold close;rw[ai q])
 ·exact aai _ _ _ _ _ (by unfold close;rw[ag q])
end
section
variable {m t:cM} {x1 x2 x3 x4 x5 x6 x7 x8 x9 Fz Fy Fx Fw JN N8 N7:Value} {n:Nat} {i:Int}
instance:Wr (aM m) 2 (nm n) (aM {m with bw:=n}):=⟨rfl,by show 4<=16;decide,mI n⟩
instance:Wr (aM m) 4 (nm n) (aM {m with aP:=n}):=⟨rfl,by show 6<=16;decide,mI n⟩
end
section
variable {W:World} {L R:LH} {K:VK} {X:WK} {p:Nat} {b:aZ} {hs:List C} {f:aZ×List C->LH} {t q:cM} {d c:bJ} {n:Nat} {fate:Int} {k:ch}
def Yq(h:T W L (K (.b (decide (¬gi t q))))):T W L (gO (aM t) (aM q) K):=by
 unfold gO;have j3:∀(r1 r2:Nat)(x:Bool),((x=true/\(t.code=0\/t.code=q.code))↔ ¬gi t q)->T W (Sep.pt r2 (aM q)::Sep.pt r1 (aM t)::L) (gO.j3 K r1 r2 x):=by
  intro r1 r2 x hx;unfold gO.j3;apply dj<;>intro g
  ·repeat' first|apply ws;intros|apply wb|with_reducible refine dj (λh1=>?_) (λh1=>?_)|fail
   ·have h1:t.code=0:=by simpa using h1
    rw[av (hx.1 ⟨g,.inl h1⟩)] at h;exact T.dp h
   ·have h1: ¬t.code=0:=by simpa using h1
    refine T.fin (T.dp h) ?_
    congr 1
    rw[cf];simp only[wO,decide_eq_true_eq];rw[<-hx]
    constructor
    ·exact λe=>⟨g,.inr e⟩
    ·rintro⟨_,e|e⟩
     ·exact aQ e h1
     ·exact e
  ·rw[ar (λhh=>by rw[(hx.2 hh).1] at g;cases g)] at h;exact T.dp h
 have j2:∀(r1 r2:Nat)(x:Bool),((x=true/\(t.ba=0\/t.ba=q.ba)/\(t.code=0\/t.code=q.code))↔ ¬gi t q)->T W (Sep.pt r2 (aM q)::Sep.pt r1 (aM t)::L) (gO.j2 K r1 r2 x):=by
  intro r1 r2 x hx;unfold gO.j2;apply dj<;>intro g
  ·repeat' first|apply ws;intros|apply wb|with_reducible refine dj (λh1=>?_) (λh1=>?_)|fail
   ·have h1:t.ba=0:=by simpa using h1
    exact j3 _ _ _ (by rw[<-hx];simp[g,h1])
   ·have h1: ¬t.ba=0:=by simpa using h1
    exact j3 _ _ _ (by rw[<-hx];simp[g,h1])
  ·exact j3 _ _ _ (by rw[<-hx];simp[g])
 have j1:∀(r1 r2:Nat)(x:Bool),((x=true/\(t.aP=0\/t.aP=q.aP)/\(t.ba=0\/t.ba=q.ba)/\(t.code=0\/t.code=q.code))↔ ¬gi t q)->T W (Sep.pt r2 (aM q)::Sep.pt r1 (aM t)::L) (gO.j1 K r1 r2 x):=by
  intro r1 r2 x hx;unfold gO.j1;apply dj<;>intro g
  ·repeat' first|apply ws;intros|apply wb|with_reducible first|refine vR ?_|refine dj (λh1=>?_) (λh1=>?_)|fail
   ·have h1:=aR h1;exact j2 _ _ _ (by rw[<-hx];simp[g,h1])
   ·have h1:=bn h1;exact j2 _ _ _ (by rw[<-hx];simp[g,h1])
  ·exact j2 _ _ _ (by rw[<-hx];simp[g])
 have HC:((t.bw=0\/t.bw=q.bw)/\(t.aP=0\/t.aP=q.aP)/\(t.ba=0\/t.ba=q.ba)/\(t.code=0\/t.code=q.code))↔ ¬gi t q:=by unfold gi;omega
 repeat' first|apply ws;intros|apply wb|with_reducible first|refine vR ?_|refine dj (λh1=>?_) (λh1=>?_)|fail
 ·have h1:=aR h1;exact j1 _ _ _ (by rw[<-HC];simp[h1])
 ·have h1:=bn h1;exact j1 _ _ _ (by rw[<-HC];simp[h1])
def ov(pend:Option ch)(t:cM):Int:=match pend with
 |none=>23
 |some k=>if ¬has k.move.aq 2 then 24 else if gi t k.move then 25 else if 1<k.fate then 25+k.fate else 0
def YU(G:mY W)[i:Lc (cL p) L (b,hs) f](h0:∀m,ov (b.named t.pending) t≠0->T W L (K (.tuple ⟨[.agg ⟨aM m⟩,.i (ov (b.named t.pending) t)]⟩)))
 (h:∀k,b.named t.pending=some k->ov (b.named t.pending) t=0->T W L (K (.tuple ⟨[.agg ⟨aM k.move⟩,.i 0]⟩))):T W L (Ap (ah p) (aM t) K):=by
 refine qP (p:=p) λhg=>?_;unfold Ap
 repeat' first|apply ws;intros|apply wb|with_reducible refine K3 ?_|fail
 cases hn:b.named t.pending with
 |none=>
  rw[hn] at h0;simp only[fp,gV];have:=h0 zT (by show(23:Int)≠0;decide);apply ws;intros;exact T.dp this
 |some k=>
  rw[hn] at h0 h;obtain⟨kg,_⟩:=wJ hg hn;simp only[dG,dE]
  repeat' first|apply ws;intros|apply wb|with_reducible refine u7 kg.xq ?_|fail
  by_cases g1:has k.move.aq 2
  ·rw[av g1]
   repeat' first|apply ws;intros|apply wb|with_reducible refine Yq ?_|fail
   by_cases g2:gi t k.move
   ·have e:ov (some k) t=25:=by unfold ov;dsimp only;rw[ag (λh=>h g1),ai g2]
    rw[e] at h0;have:=h0 zT (by decide);rw[ar (λh=>h g2)];apply ws;intros;exact T.dp this
   ·rw[av g2];obtain⟨f1,f2⟩:=kg.fate;have e:ov (some k) t=if 1<k.fate then 25+k.fate else 0:=by unfold ov;dsimp only;rw[ag (λh=>h g1),ag g2]
    obtain⟨fn,Lh⟩:∃fn:Nat,k.fate=fn:=⟨k.fate.toNat,by omega⟩;have Re:fn<5:=by omega
    have Xl:([.i 0,.i 0,.i 27,.i 28,.i 29]:LV)[fn]?=some (.i (if 1<k.fate then 25+k.fate else 0)):=by
     rw[Lh]
     match fn,Re with
     |0,_=>rfl
     |1,_=>rfl
     |2,_=>rfl
     |3,_=>rfl
     |4,_=>rfl
    apply ws;intros;refine dO ⟨f1,by omega⟩ ?_;have hnt:k.fate.toNat* 1=fn:=by omega
    rw[hnt];have AX:=G.told fn _ Xl;refine λw hO=>⟨_,by rw[hO.old (Fi AX)];exact AX,?_⟩;refine T.at ?_ hO;apply ws;intros;refine λw hO=>⟨λj v hj=>?_,?_⟩
    ·match j,hj with
     |0,hj=>
      simp at hj;subst hj;have Ri:=AX;rw[ig,aC] at Ri;rw[ig,eL,hO.old (Fi Ri)];exact Ri
    refine T.at ?_ hO;apply ws;intros;rw[<-e];by_cases g3:ov (some k) t=0
    ·rw[g3];have:=h k rfl g3;exact T.dp this
    ·have:=h0 k.move g3;exact T.dp this
  ·have e:ov (some k) t=24:=by unfold ov;dsimp only;rw[ai g1]
   rw[e] at h0;have:=h0 zT (by decide);rw[ar g1];apply ws;intros;exact T.dp this
def adW{f:Int}(h0:0<=f)(h1:f<256):(dm .i64 .and f 8!=0)=decide (has f 8):=by
 rw[cf];simp only[fP,ne_eq,decide_eq_true_eq];rw[Wz h0 h1,bm]
def S6(hf:0<=t.aq/\t.aq<256)(h48:has t.aq 8↔ ¬has t.aq 4)(h0:mq t q->T W L (K (.tuple ⟨[.agg ⟨nm 0⟩,.i 26]⟩)))
 (h: ¬mq t q->T W L (K (.tuple ⟨[.agg ⟨nm (cV t q)⟩,.i 0]⟩))):T W L (o5 (aM t) (aM q) K):=by
 unfold o5
 repeat' first|apply ws;intros|apply wb|with_reducible refine vR ?_|fail
 apply ga<;>intro g1
 ·have e:cV t q=q.aU:=ai g1;have hb: ¬mq t q:=by unfold mq;rw[e];omega
  have:=h hb;rw[e] at this;apply ws;intros;exact T.dp this
 have e:cV t q=t.aU:=ag g1;unfold o5.j1;apply ws;intros;rw[adW hf.1 hf.2];apply ga<;>intro g2
 ·apply ws;intros;by_cases g3:t.aU=q.aU
  ·have hb: ¬mq t q:=by
    unfold mq;rw[e];have:=h48.1 g2;rintro(⟨h4,_⟩|⟨_,h4⟩)
    ·exact this h4
    ·exact h4 g3
   have:=h hb;rw[e] at this;rw[av g3]
   repeat' first|apply ws;intros|apply wb|with_reducible refine DF ?_|fail
   refine fW (by simp;omega) ?_;apply ws;intros;exact T.dp this
  ·have hb:mq t q:=.inr ⟨h48.1 g2,by rw[e];exact g3⟩;have:=h0 hb;rw[ar g3];apply ws;intros;exact T.dp this
 ·have g4:has t.aq 4:=bm.1 λhh=>g2 (h48.2 hh)
  repeat' first|apply ws;intros|apply wb|with_reducible refine DF ?_|fail
  apply ga<;>intro g3
  ·have:=h0 (.inl ⟨g4,by rw[e];exact g3⟩);apply ws;intros;exact T.dp this
  ·have:=h (by
    rintro(⟨_,h4⟩|⟨h4,_⟩)
    ·rw[e] at h4;exact g3 h4
    ·exact h4 g4)
   rw[e] at this;apply ws;intros;exact T.dp this
def abV{f:Int}(h0:0<=f)(h1:f<256):(dm .i64 .and f 64==0)=decide (¬has f 64):=by
 rw[cf];simp only[wO,decide_eq_true_eq];rw[WA h0 h1]
def YY{f:Int}(h0:0<=f)(h1:f<256):(dm .i64 .and f 128==0)=decide (¬has f 128):=by
 rw[cf];simp only[wO,decide_eq_true_eq];rw[RA h0 h1]
def S5[i:Lc (cL p) L (b,hs) f](hq:0<=q.aq/\q.aq<256)(hd:b.find q.bw=some d)(hc:b.find q.aP=some c)
 (h:T W L (K (.i (if 8<=d.aq/\ ¬has q.aq 64 then 30 else if 8<=c.aq/\ ¬has q.aq 128 then 31 else 0)))):T W L (nV (ah p) (aM q) K):=by
 refine qP (p:=p) λhg=>?_;have fd:=(hg.T0 d (nA hd)).aq;have fc:=(hg.T0 c (nA hc)).aq;unfold nV
 repeat' first|apply ws;intros|apply wb|with_reducible refine xQ ?_|fail
 rw[hd,hc];simp only[dG,dE];rename_i r1 r2 r3;have j1:∀x:Bool,(x=true↔(8<=d.aq/\ ¬has q.aq 64))->T W (Sep.pt r3 (aL c)::Sep.pt r2 (aL d)::Sep.pt r1 (aM q)::L) (nV.j1 K r3 r1 x):=by
  intro x hx;unfold nV.j1;apply dj<;>intro g
  ·rw[ai (hx.1 g)] at h;exact T.dp h
  rw[ag (λhh=>by rw[hx.2 hh] at g;cases g)] at h;apply ws;intros;rw[YX fc.1 fc.2];apply ga<;>intro g1
  ·apply ws;intros;rw[YY hq.1 hq.2];apply ga<;>intro g2
   ·rw[ai ⟨g1,g2⟩] at h;exact T.dp h
   ·rw[ag (λhh=>g2 hh.2)] at h;exact T.dp h
  ·rw[ag (λhh=>g1 hh.1)] at h;exact T.dp h
 rw[YX fd.1 fd.2];apply ga<;>intro g1
 ·apply ws;intros;rw[abV hq.1 hq.2];exact j1 _ (by simp[g1])
 ·exact j1 _ (by simp[g1])
end
section
variable {b:aZ} {t q:cM} {d c:bJ} {n:Nat} {fate:Int}
def X2(hd:AG d)(hn:fate=2->d.dq+n<bG):AG (A9 d q n fate):=by
 obtain⟨⟨i1,i2,i3,i4,i5,i6,i7,i8,i9⟩,i10,i11,i12⟩:=hd;have hf:0<=d.aq%8/\d.aq%8<16:=by omega
 unfold A9 open_;split
 ·exact⟨⟨i1,by show d.dp-q.aU<bG;omega,by show d.dq+n<bG;exact hn (by assumption),i4,i5,i6,i7,i8,i9⟩,i10,i11,i12⟩
 ·split
  ·exact⟨⟨i1,by show d.dp-q.aU<bG;omega,i3,i4,i5,i6,i7,by show vS (d.aq%8);unfold vS;omega,i9⟩,⟨i10.1,i10.2.1,by show 0<=d.aq%8/\d.aq%8<=65535;omega⟩,hf,i12⟩
  ·exact⟨⟨i1,by show d.dp-q.aU<bG;omega,i3,i4,i5,i6,i7,i8,i9⟩,i10,i11,i12⟩
def X3(hd:AG d)(hn:fate=2->d.cq+n<bG):AG (Ca d q n fate):=by
 obtain⟨⟨i1,i2,i3,i4,i5,i6,i7,i8,i9⟩,i10,i11,i12⟩:=hd;have hf:0<=d.aq%8/\d.aq%8<16:=by omega
 unfold Ca open_;split
 ·exact⟨⟨i1,i2,i3,by show d.cp-q.aU<bG;omega,by show d.cq+n<bG;exact hn (by assumption),i6,i7,i8,i9⟩,i10,i11,i12⟩
 ·split
  ·exact⟨⟨i1,i2,i3,by show d.cp-q.aU<bG;omega,i5,i6,i7,by show vS (d.aq%8);unfold vS;omega,i9⟩,⟨i10.1,i10.2.1,by show 0<=d.aq%8/\d.aq%8<=65535;omega⟩,hf,i12⟩
  ·exact⟨⟨i1,i2,i3,by show d.cp-q.aU<bG;omega,i5,i6,i7,i8,i9⟩,i10,i11,i12⟩
end
section
variable {W:World} {L R:LH} {K:VK} {X:WK} {p:Nat} {b:aZ} {hs:List C} {f:aZ×List C->LH} {t q:cM} {d c:bJ} {n:Nat} {fate:Int} {k:ch}
def IJ[i:Lc (cL p) L (b,hs) f](hk:b.named q.id=some k)(YQ:k.fate=1)(hq:0<=q.aq/\q.aq<256)(hqa:q.aU<bG)(Jj:n<bG)(hd:b.find q.bw=some d)(hc:b.find q.aP=some c)(kN:q.bw≠q.aP)(hf:fate=2\/fate=3\/fate=4)
 (E9:fate=2->d.dq+n<bG)(vX:fate=2->c.cq+n<bG)(hl:hs.length<800000)
 (h:∀fM,Ext (fY b) hs (fY (b.release q n fate)) fM 4->T W (f (b.release q n fate,fM)) (K (.tuple ⟨[]⟩))):T W L (eH (ah p) (aM q) (nm n) fate K):=by
 refine qP (p:=p) λhg=>?_;obtain⟨gd,EI⟩:=xD hg hd;obtain⟨gc,Ef⟩:=xD hg hc;have er:b.release q n fate=((b.bC (A9 d q n fate)).bC (Ca c q n fate)).fate q.id fate:=by unfold aZ.release;rw[hd,hc]
 rw[er] at h;have last:∀(D E:bJ)(r1 r2 r3 r4:Nat),D=A9 d q n fate->E=Ca c q n fate->T W (Sep.pt r4 (aL E)::Sep.pt r3 (aL D)::Sep.pt r2 (nm n)::Sep.pt r1 (aM q)::L) (eH.j1 K r3 (ah p) r4 r1 fate):=by
  intro D E r1 r2 r3 r4 hD hE;have hDi:D.id=d.id:=by rw[hD];exact(J8 _ _ _ _).1
  have hEi:E.id=c.id:=by rw[hE];exact(J9 _ _ _ _).1
  have gD:AG {D with ay:=d.ay}:=by
   have:=X2 (q:=q) (n:=n) (fate:=fate) gd E9;rw[<-hD] at this;have es:D.ay=d.ay:=by rw[hD];exact(J8 _ _ _ _).2
   have e2:({D with ay:=d.ay}:bJ)=D:=by rw[<-es]
   rw[e2];exact this
  have gE:AG {E with ay:=c.ay}:=by
   have:=X3 (q:=q) (n:=n) (fate:=fate) gc vX;rw[<-hE] at this;have es:E.ay=c.ay:=by rw[hE];exact(J9 _ _ _ _).2
   have e2:({E with ay:=c.ay}:bJ)=E:=by rw[<-es]
   rw[e2];exact this
  rw[<-hD,<-hE] at h;unfold eH.j1;apply ws;intros;refine KW (p:=p) (by rw[hDi,EI];exact hd) gD (by omega) λBL x1=>?_;have l1:=x1.len;have i1:=i.next (b.bC D,BL);apply ws;intros;refine KW (p:=p) (old:=c) (Iy (by rw[hEi,Ef];exact hc) (by rw[hDi,hEi,EI,Ef];exact kN)) gE (by omega) λhO x2=>?_;have l2:=x2.len;have i2:=i.next ((b.bC D).bC E,hO);apply ws;intros;refine abb (p:=p) (k:=k) (show((b.bC D).bC E).named q.id=some k from hk) YQ hf (by omega) λxf x3=>?_;apply ws;intros;have:=h xf (((x1.trans x2).trans x3).mono (by omega));exact T.dp this
 have ac7:∀x y:Nat,(if x<y then 0 else x-y)=x-y:=λx y=>by split<;>omega
 unfold eH
 repeat' first|apply ws;intros|apply wb|with_reducible refine xQ ?_|fail
 rw[hd,hc];simp only[dG,dE]
 repeat' first|apply ws;intros|apply wb|with_reducible first|refine WR gd.ok.dp hqa ?_|refine WR gc.ok.cp hqa ?_|fail
 rw[ac7,ac7];apply dj<;>intro g1
 ·have g1:fate=2:=by simpa using g1
  repeat' first|apply ws;intros|apply wb|with_reducible first|refine Ew gd.ok.dq Jj ?_|refine Ew gc.ok.cq Jj ?_|fail
  rw[ai (E9 g1),ai (vX g1)];refine last _ _ _ _ _ _ ?_ ?_
  ·unfold A9;rw[ai g1]
  ·unfold Ca;rw[ai g1]
 ·have g1: ¬fate=2:=by simpa using g1
  have j2:∀(D:bJ)(r1 r2 r3 r4:Nat),D=A9 d q n fate->T W (Sep.pt r4 (aL {c with cp:=c.cp-q.aU})::Sep.pt r3 (aL D)::Sep.pt r2 (nm n)::Sep.pt r1 (aM q)::L) (eH.j2 K r1 r4 r3 (ah p) fate):=by
   intro D r1 r2 r3 r4 hD;unfold eH.j2;apply ws;intros;rw[VN hq.1 hq.2];apply ga<;>intro g2
   ·apply ws;intros;rw[aay gc.aq.1 gc.aq.2];refine last _ _ _ _ _ _ hD ?_;unfold Ca open_;rw[ag g1,ai g2]
   ·refine last _ _ _ _ _ _ hD ?_;unfold Ca open_;rw[ag g1,ag g2]
  apply ws;intros;rw[aat hq.1 hq.2];apply ga<;>intro g2
  ·apply ws;intros;rw[aay gd.aq.1 gd.aq.2];refine j2 _ _ _ _ _ ?_;unfold A9 open_;rw[ag g1,ai g2]
  ·refine j2 _ _ _ _ _ ?_;unfold A9 open_;rw[ag g1,ag g2]
structure ND(b:aZ)(k:ch):Prop where
 bw:∃d,b.find k.move.bw=some d/\k.move.aU<=d.dp/\d.dp+d.dq<bG
 aP:∃c,b.find k.move.aP=some c/\k.move.aU<=c.cp/\c.cp+c.cq<bG
 ne:k.move.bw≠k.move.aP
def Pk{id:Nat}(hn:b.named id=none){id':Nat}:(b.fate id' fate).named id=none:=by
 unfold aZ.named at *;rw[nJ] at *;intro x hx;obtain⟨y,hy,rfl⟩:=cA.1 hx;have:=hn y hy;split<;>exact this
def HW{id:Nat}(hn:b.named id=none):(b.release q n fate).named id=none:=by
 unfold aZ.release;split
 ·exact Pk hn
 ·exact hn
def abR(G:mY W)(ht:Ab t)(Vr:kL t)(uu:nG t=0)(rT:ke t.aq)(hw:∀k∈b.ax,has k.move.aq 2->k.fate<=1->k.fate=1/\ND b k)(hl:hs.length<800000)[i:Lc (cL p) L (b,hs) f]
 (h:∀fM,Ext (fY b) hs (fY (b.py t).2) fM 8->T W (f ((b.py t).2,fM)) (K (.i (b.py t).1))):T W L (su (ah p) (aM t) K):=by
 have hL:f (b,hs)=L:=i.same;refine qP (p:=p) λhg=>?_;have ck:=Dy uu;have hf:0<=t.aq/\t.aq<256:=by have:=ck.aq;omega
 have bad:∀r:Int,r≠0->(b.py t)=(r,b)->T W L (K (.i r)):=by
  intro r hr e;rw[e] at h;have:=h hs (Ext.refl _ _ _);rw[hL] at this;exact this
 unfold su
 repeat' first|apply ws;intros|apply wb|with_reducible refine K3 ?_|fail
 cases hn:b.named t.id with
 |some k=>
  obtain⟨hk,_⟩:=wJ hg hn;simp only[dG,dE]
  repeat' first|apply ws;intros|apply wb|with_reducible refine LD hf hk.vP ?_|fail
  have:=bad (tt t k.asked) (tr _ _) (by
   unfold aZ.py
   have e1:∀(pend:Option ch)(x y:Bool)(m:Nat),oy t (some k) pend x y m=tt t k.asked:=by
    intro pend x y m;unfold oy;rw[ag (by simpa using uu),ag (by simpa using rT)]
   rw[hn]
   cases b.named t.pending with
   |none=>dsimp only;rw[e1]
   |some k2=>dsimp only;rw[e1,ai (tr _ _)])
  exact T.dp this
 |none=>
 simp only[fp,gV];apply ws;intros;have Rj:∀(k2:ch),b.named t.pending=some k2->∀(x y:Bool)(m:Nat),oy t none (some k2) x y m=(if ov (some k2) t≠0 then ov (some k2) t else if mq t k2.move then 26 else if has t.aq 4/\x=true then 30 else if has t.aq 4/\y=true then 31 else if 96<=m then 35 else 0):=by
  intro k2 _ x y m;unfold oy;rw[ag (by simpa using uu),ag (by simpa using rT)];dsimp only;by_cases g1: ¬has k2.move.aq 2
  ·have hv:ov (some k2) t=24:=by unfold ov;dsimp only;rw[ai g1]
   rw[hv,ai g1,ai (by decide)]
  by_cases g2:gi t k2.move
  ·have hv:ov (some k2) t=25:=by unfold ov;dsimp only;rw[ag g1,ai g2]
   rw[hv,ag g1,ai g2,ai (by decide)]
  by_cases g3:1<k2.fate
  ·have hv:ov (some k2) t=25+k2.fate:=by unfold ov;dsimp only;rw[ag g1,ag g2,ai g3]
   rw[hv,ag g1,ag g2,ai g3,ai (by omega)]
  ·have hv:ov (some k2) t=0:=by unfold ov;dsimp only;rw[ag g1,ag g2,ag g3]
   rw[hv,ag g1,ag g2,ag g3,ag (show ¬((0:Int)≠0) by decide)]
 refine YU G (λm kN=>?_) (λk2 q8 he=>?_)
 ·apply ws;intros;refine mP (by simpa using kN) ?_;have:=bad _ kN (by
   unfold aZ.py
   rw[hn]
   cases hp:b.named t.pending with
   |none=>
    dsimp only
    have:oy t none none false false b.ax.length=23:=by unfold oy;rw[ag (by simpa using uu),ag (by simpa using rT)]
    rw[this];rfl
   |some k2=>
    rw[hp] at kN
    dsimp only
    rw[Rj k2 hp,ai kN,ai kN])
  exact T.dp this
 apply ws;intros;rw[q8] at he;obtain⟨kg,afx⟩:=wJ hg q8;have MJ:k2∈b.ax:=nA q8;have h2p:has k2.move.aq 2/\k2.fate<=1:=by
  unfold ov at he;dsimp only at he;by_cases g1: ¬has k2.move.aq 2
  ·rw[ai g1] at he;cases he
  rw[ag g1] at he;by_cases g2:gi t k2.move
  ·rw[ai g2] at he;cases he
  rw[ag g2] at he;by_cases g3:1<k2.fate
  ·rw[ai g3] at he;omega
  exact⟨bm.1 g1,by omega⟩
 obtain⟨YV,⟨⟨d,hd,hda,hds⟩,⟨c,hc,hca,N2⟩,kN⟩⟩:=hw k2 MJ h2p.1 h2p.2;have e0:∀r:Int,r=(if mq t k2.move then 26 else if has t.aq 4/\b.mW k2.move.bw (has k2.move.aq 64)=true then 30 else if has t.aq 4/\b.mW k2.move.aP (has k2.move.aq 128)=true then 31 else if 96<=b.ax.length then 35 else 0)->
  b.py t=(if r≠0 then(r,b) else(0,(b.release k2.move (cV t k2.move) (cK t)).kY t (mJ t k2.move) 0)):=by
  intro r hr;subst hr;unfold aZ.py;rw[q8,hn];dsimp only;rw[Rj k2 q8,he,ag (show ¬((0:Int)≠0) by decide)]
 have h48:has t.aq 8↔ ¬has t.aq 4:=(G3 uu rT).2.1;refine fW (by simp) ?_;apply ws;intros;refine S6 hf h48 (λhb=>?_) (λhb=>?_)
 ·apply ws;intros;have:=bad 26 (by decide) (by rw[e0 26 (by rw[ai hb])];rfl);exact T.dp this
 have hN:cV t k2.move<bG:=by unfold cV;split;exact kg.move.aU;exact ht.aU
 have ad0:has t.aq 4->cV t k2.move<=k2.move.aU:=λh4=>by
  unfold mq at hb;by_cases hx:k2.move.aU<cV t k2.move
  ·exact aQ (.inl ⟨h4,hx⟩) hb
  ·omega
 have uZ:=hg.ay;have og:=hg.og;have many:=hg.many;have cl:=hg.clock;have fin:∀(r1 r2 r3 r4:Nat)(fate:Int),fate=cK t->(if 96<=b.ax.length then b.py t=(35,b) else b.py t=(0,(b.release k2.move (cV t k2.move) (cK t)).kY t (mJ t k2.move) 0))->
  T W (Sep.pt r4 (nm (cV t k2.move))::Sep.pt r3 (aM k2.move)::Sep.pt r2 (bF zK)::Sep.pt r1 (aM t)::L) (su.j1 K (ah p) r3 r4 r1 fate):=by
  intro r1 r2 r3 r4 fate hfa H';unfold su.j1
  repeat' first|apply ws;intros|apply wb|with_reducible refine WY ?_|fail
  by_cases g3:96<=b.ax.length
  ·rw[ai g3] at H';rw[ar (by omega)];apply ws;intros;have:=bad 35 (by decide) H';exact T.dp this
  rw[ag g3] at H';rw[av (by omega)];rw[H',<-hfa] at h;apply ws;intros;have hf3:fate=2\/fate=3\/fate=4:=by rw[hfa];unfold cK;split<;>simp
  have h24:fate=2->has t.aq 4:=λe=>by
   rw[hfa] at e;unfold cK at e;split at e
   ·assumption
   ·cases e
  refine IJ (p:=p) (k:=k2) (d:=d) (c:=c) (by rw[afx];exact q8) YV kg.xq kg.move.aU hN hd hc kN hf3 (λe=>by have:=ad0 (h24 e);omega) (λe=>by have:=ad0 (h24 e);omega) hl λBL x1=>?_;have l1:=x1.len;have i1:=i.next (b.release k2.move (cV t k2.move) fate,BL);apply ws;intros;have hrk:(b.release k2.move (cV t k2.move) fate).ax.length=b.ax.length:=by unfold aZ.release;rw[hd,hc];show(List.map _ _).length=_;rw[bU];rfl
  have hrs:(b.release k2.move (cV t k2.move) fate).ay=b.ay:=by unfold aZ.release;rw[hd,hc];rfl
  have hrc:(b.release k2.move (cV t k2.move) fate).clock=b.clock:=by unfold aZ.release;rw[hd,hc];rfl
  have hkg:KG (tU (b.release k2.move (cV t k2.move) fate) t (mJ t k2.move) 0):=by
   have kt:=kg.QT;have aiG:=Vr;refine⟨ht,⟨ht.id,kg.move.bw,kg.move.aP,hN,ht.pending,ht.cn,kg.move.ba,kg.move.code,ht.aq,?_,?_⟩,Vr,⟨Vr.1,kt.2.1,kt.2.2.1,Vr.2.2.2⟩,hf,hf,by show(0:Int)<=0/\(0:Int)<=4;decide,ck.cn,?_⟩
   ·show vS (aZ.ay _+1);rw[hrs];unfold vS;omega
   ·show vS (aZ.clock _);rw[hrc];unfold vS;omega
   ·show 0<=aZ.clock _/\aZ.clock _<=_;rw[hrc];exact cl
  refine QA (p:=p) (t:=mJ t k2.move) (waits:=false) (fate:=0) (HW hn) (by rw[hrk];omega) hkg rfl (by omega) λhO x2=>?_;apply ws;intros;have:=h hO ((x1.trans x2).mono (by omega));exact T.dp this
 apply ws;intros;refine fW (by decide) ?_;apply ws;intros;rw[afR hf.1 hf.2];apply ga<;>intro g4
 ·apply ws;intros;refine S5 (p:=p) kg.xq hd hc ?_;have c1:(b.mW k2.move.bw (has k2.move.aq 64)=true)↔(8<=d.aq/\ ¬has k2.move.aq 64):=by unfold aZ.mW;rw[hd];simp
  have c2:(b.mW k2.move.aP (has k2.move.aq 128)=true)↔(8<=c.aq/\ ¬has k2.move.aq 128):=by unfold aZ.mW;rw[hc];simp
  by_cases g5:8<=d.aq/\ ¬has k2.move.aq 64
  ·rw[ai g5];apply ws;intros;refine mP (by decide) ?_;have:=bad 30 (by decide) (by rw[e0 30 (by rw[ag hb,ai ⟨g4,c1.2 g5⟩])];rfl);exact T.dp this
  rw[ag g5];by_cases g6:8<=c.aq/\ ¬has k2.move.aq 128
  ·rw[ai g6];apply ws;intros;refine mP (by decide) ?_;have:=bad 31 (by decide) (by rw[e0 31 (by rw[ag hb,ag (λhh=>g5 (c1.1 hh.2)),ai ⟨g4,c2.2 g6⟩])];rfl);exact T.dp this
  rw[ag g6];apply ws;intros;refine fW (by decide) ?_;refine fin _ _ _ _ _ (by unfold cK;rw[ai g4]) ?_;by_cases g7:96<=b.ax.length
  ·rw[ai g7,e0 35 (by rw[ag hb,ag (λhh=>g5 (c1.1 hh.2)),ag (λhh=>g6 (c2.1 hh.2)),ai g7])];rfl
  ·rw[ag g7,e0 0 (by rw[ag hb,ag (λhh=>g5 (c1.1 hh.2)),ag (λhh=>g6 (c2.1 hh.2)),ag g7])];rfl
 ·refine fin _ _ _ _ _ (by unfold cK;rw[ag g4]) ?_;by_cases g7:96<=b.ax.length
  ·rw[ai g7,e0 35 (by rw[ag hb,ag (λhh=>g4 hh.1),ag (λhh=>g4 hh.1),ai g7])];rfl
  ·rw[ag g7,e0 0 (by rw[ag hb,ag (λhh=>g4 hh.1),ag (λhh=>g4 hh.1),ag g7])];rfl
def ad1(G:mY W)(ht:Ab t)(Vr:kL t)(hw:∀k∈b.ax,has k.move.aq 2->k.fate<=1->k.fate=1/\ND b k)(hl:hs.length<800000)[i:Lc (cL p) L (b,hs) f]
 (h:∀fM,Ext (fY b) hs (fY (b.rA t).2) fM 8->T W (f ((b.rA t).2,fM)) (K (.i (b.rA t).1))):T W L (oD (ah p) (aM t) K):=by
 unfold oD
 repeat' first|apply ws;intros|apply wb|with_reducible refine LC G ht ?_|fail
 unfold oD.j1;apply dj<;>intro g1
 ·have g1:nG t≠0:=by simpa using g1
  have e:b.rA t=b.move t:=by unfold aZ.rA;rw[ag (λhh=>g1 hh.1)]
  rw[e] at h;apply ws;intros;refine aah G ht Vr hl λfM hx=>?_;apply ws;intros;have:=h fM (hx.mono (by omega));exact T.dp this
 have g1:nG t=0:=by simpa using g1
 have ck:=Dy g1
 repeat' first|apply ws;intros|apply wb|with_reducible refine K9 (show 0<=t.aq/\t.aq<256 by have:=ck.aq;omega) ?_|fail
 by_cases g2:ke t.aq
 ·have e:b.rA t=b.py t:=by unfold aZ.rA;rw[ai ⟨g1,g2⟩]
  rw[e] at h;rw[av g2];apply ws;intros;refine abR G ht Vr g1 g2 hw hl λfM hx=>?_;apply ws;intros;have:=h fM hx;exact T.dp this
 ·have e:b.rA t=b.move t:=by unfold aZ.rA;rw[ag (λhh=>g2 hh.2)]
  rw[e] at h;rw[ar g2];apply ws;intros;refine aah G ht Vr hl λfM hx=>?_;apply ws;intros;have:=h fM (hx.mono (by omega));exact T.dp this
end
section
variable {W:World} {L R:LH} {K:VK} {X:WK} {p:Nat} {b:aZ} {hs:List C} {f:aZ×List C->LH}
def zI:Item:=⟨0,0,0⟩
instance{x1 x2 x3 x4:Value}:Wr [x1,x2,x3,x4] 0 [.i 0,.i 0,.u 0,.u 0] (gW zI):=⟨rfl,aH _,qH zI⟩
instance{x:Item}:Sub (gW x) 2 2 (nm x.id):=⟨rfl,λj v h=>by
 match j with
 |0=>exact h
 |1=>exact h
 |j+2=>simp[nm] at h⟩
def US{r o:Nat}{cs:LV}{bb:OA}{c:Nat}{h:List Item}(hv:cs[o]?=some (.l bb h.length c))(hl:h.length<10000)
 (hx:∀x,h[0]?=some x->T W (Sep.pt r cs::own bb h.length c 4 (h.flatMap gW)::R) (K (.tuple ⟨[.agg ⟨gW x⟩,.b true]⟩)))
 (h0:h=[]->T W (Sep.pt r cs::own bb h.length c 4 (h.flatMap gW)::R) (K (.tuple ⟨[.agg ⟨gW zI⟩,.b false]⟩))):
 T W (Sep.pt r cs::own bb h.length c 4 (h.flatMap gW)::R) (nU (some ⟨r,o,none⟩) K):=by
 unfold nU uo;refine uH λr1=>?_;refine zv ?_;refine EA ?_;refine nR hv ?_;refine um ?_;refine nQ ?_;apply dj<;>intro g
 ·have g:h=[]:=by
   have:((h.length:Nat):Int)=0:=by simpa using g
   exact List.length_eq_zero_iff.1 (by omega)
  apply ws;intros;have:=h0 g;exact T.dp this
 ·have g:0<h.length:=by
   have: ¬((h.length:Nat):Int)=0:=by simpa using g
   omega
  refine EA ?_;refine nR hv ?_;refine um ?_;have gx:=aj g;refine dL ⟨by omega,by omega⟩ λrb hb=>?_;subst hb;refine gT (o:=0) jf gx ?_;apply ws;intros;have:=hx _ gx;exact T.dp this
def Tj{q:Core}{f:Core->LH}[i:Lc (ic p) L q f](hl:q.ends.length<10000)
 (h1:∀x,x∈q.ends->(∀y∈q.ends,¬bf y x)->T W L (K (.tuple ⟨[.agg ⟨gW x⟩,.b true]⟩)))(h0:q.ends=[]->T W L (K (.tuple ⟨[.agg ⟨gW zI⟩,.b false]⟩))):T W L (nU (some ⟨p,6,none⟩) K):=by
 have hL:f q=L:=i.same;rw[<-hL] at h0 h1;refine qQ (p:=p) λb1 c1 b2 c2 b3 c3 hp R g1 g2 hc=>?_;refine T.Ox ?_;refine US rfl (by rw[g2.length_eq];exact hl) (λx hx=>?_) (λhn=>?_)
 ·refine T.F5 ?_;exact hc [] q b1 c1 b2 c2 b3 c3 hp _ g1 g2 (h1 x (g2.mem_iff.1 (bD hx)) λy hy=>g1.first hx y (g2.mem_iff.2 hy))
 ·refine T.F5 ?_;exact hc [] q b1 c1 b2 c2 b3 c3 hp _ g1 g2 (h0 (by subst hn;exact(List.nil_perm.1 g2)))
def tick(b:aZ)(now:Int):aZ:={b with clock:=if b.clock<now/\now<=1099511627776 then now else b.clock}
def XV[i:Lc (cL p) L (b,hs) f]{now:Int}(hl:hs.length<900000)
 (h:∀fM,Ext (fY b) hs (fY (Go.Up.tick b now)) fM 1->T W (f (Go.Up.tick b now,fM)) (K (.tuple ⟨[]⟩))):T W L (eQ (ah p) now K):=by
 refine NP (p:=p) λla lk ti tn vs bx R hg hc qj=>?_;have Q9:vs.reverse.length<900000:=by rw[jC,hc.len];omega
 have hck:=hg.clock;have same: ¬(b.clock<now/\now<=1099511627776)->Go.Up.tick b now=b:=λhn=>by unfold Go.Up.tick;rw[ag hn]
 unfold eQ;apply ws;intros;rename_i r1;apply ga<;>intro g
 ·have g:now<=b.clock:=g;have e:=same (by omega);rw[e] at h;have fin:=qj [] b hs vs bx _ hg hc (h hs (Ext.refl _ _ _));unfold eQ.j1;apply ws;intros;exact T.dp fin
 have g: ¬now<=b.clock:=g;unfold eQ.j1;apply ga<;>intro g2
 ·have g2:now>1099511627776:=g2;have e:=same (by omega);rw[e] at h;have fin:=qj [] b hs vs bx _ hg hc (h hs (Ext.refl _ _ _));exact T.dp fin
 have g2: ¬now>1099511627776:=g2;have e:Go.Up.tick b now={b with clock:=now}:=by unfold Go.Up.tick;rw[ai ⟨by omega,by omega⟩]
 rw[e] at h;apply ws;intros;rename_i r2;refine Oi (p:=p) ?_;apply ws;intros;refine xe (p:=p) (by show vs.reverse.length<_;omega) rfl rfl ?_;apply ws;intros;refine fh (fh ?_);have eJ:ft {b with clock:=now}:={hg with clock:=by show 0<=now/\now<=_;omega};have fin:=λoP c1=>qj [] {b with clock:=now} _ (ZY r2 r1::vs) oP _ eJ c1 (h _ ⟨[fY b],rfl,rfl,by simp⟩);simp only[gP,yP] at fin;refine fin _ ⟨?_,hc.mono λx hx=>by simp[hx]⟩;exact Ev.time (c:=fY {b with clock:=now}) (by repeat (first|exact dQ.head _|apply dQ.tail)) (by repeat (first|exact dQ.head _|apply dQ.tail))
def UG[i:Lc (cL p) L (b,hs) f]
 (h1:∀k,k∈b.ax->kJ b.clock k->T W L (K (.tuple ⟨[.agg ⟨bF k⟩,.b true]⟩)))
 (h0:(∀k∈b.ax,¬kJ b.clock k)->T W L (K (.tuple ⟨[.agg ⟨bF zK⟩,.b false]⟩))):T W L (fD (ah p) K):=by
 have hL:f (b,hs)=L:=i.same;refine NP (p:=p) λla lk ti tn vs bx R hg hc qj=>?_;have many:=hg.many;unfold fD;apply ws;intros;refine Tj (p:=p) (by have:=Cz b;show(b.ax.filterMap gB).length<_;omega) (λx hx AH=>?_) (λhn=>?_)
 ·obtain⟨k,hk,hkd⟩:=List.mem_filterMap.1 hx;obtain⟨e1,e2,e3,e4,e5⟩:=rU hkd;have hn:b.named x.id=some k:=by
   obtain⟨n,hn,rfl⟩:=List.getElem_of_mem hk;have:=Aj (key:=λx:ch=>x.move.id) hg.names hn;rw[e2];exact(xv (key:=λx:ch=>x.move.id) this).2.2
  apply ws;intros;unfold fD.j1;apply ga<;>intro g
  ·have g:x.due<=b.clock:=g;have fin:=qj [] b hs vs bx _ hg hc (by rw[hL];exact h1 k hk ⟨e4,e5,by omega⟩);apply ws;intros;refine K4 (b:=b) (q:=gP la lk ti tn vs (fY b)) many ?_;rw[hn];simp only[dG,dE];apply ws;intros;exact T.dp fin
  ·have g: ¬x.due<=b.clock:=g;have fin:=qj [] b hs vs bx _ hg hc (by
    rw[hL]
    refine h0 λk' BM ho=>?_
    have hd':gB k'=some ⟨k'.move.jh+k'.move.cn,k'.move.ay,k'.move.id⟩:=by unfold gB;rw[ai ⟨ho.1,ho.2.1⟩]
    have:=AH _ (List.mem_filterMap.2 ⟨k',BM,hd'⟩)
    have h3:=ho.2.2
    unfold bf at this
    dsimp only at this
    omega)
   apply ws;intros;exact T.dp fin
 ·have fin:=qj [] b hs vs bx _ hg hc (by
   rw[hL]
   refine h0 λk' BM ho=>?_
   have hd':gB k'=some ⟨k'.move.jh+k'.move.cn,k'.move.ay,k'.move.id⟩:=by unfold gB;rw[ai ⟨ho.1,ho.2.1⟩]
   have:_∈b.ax.filterMap gB:=List.mem_filterMap.2 ⟨k',BM,hd'⟩
   rw[show b.ax.filterMap gB=[] from hn] at this
   cases this)
  apply ws;intros;unfold fD.j1;apply ws;intros;exact T.dp fin
end
def Jw{b:aZ}{m:aA}(hs:pC b m)(hg:Md.bK m){id:Nat}(h:id∈m.cE.map (·.id)):∃a,a∈m.cE/\a.id=id/\b.find id=some (Md.full m.ax a):=by
 obtain⟨a,ha,rfl⟩:=cA.1 h;refine⟨a,ha,rfl,?_⟩;rw[hs.find];unfold aA.find;rw[pw hg.ids ha];rfl
def Hl{b:aZ}{m:aA}(hs:pC b m)(hg:Md.bK m){k:ch}(hk:k∈m.ax)(h1:k.fate=1):ND b k:=by
 obtain⟨kN,hd,hc⟩:=hg.wg k hk;obtain⟨d,Fc,EI,fd⟩:=Jw hs hg hd;obtain⟨c,TQ,Ef,fc⟩:=Jw hs hg hc;have zd:=hg.zero d Fc;have zc:=hg.zero c TQ;refine⟨⟨_,fd,?_,?_⟩,⟨_,fc,?_,?_⟩,kN⟩
 ·have:=WV (uC d.id) m.ax k hk;have e:uC d.id k=k.move.aU:=ai ⟨h1,EI.symm⟩;show k.move.aU<=d.dp+S (uC d.id) m.ax;omega
 ·show d.dp+S (uC d.id) m.ax+(d.dq+S (uj d.id) m.ax)<bG;have:=hg.yG d Fc;omega
 ·have:=WV (uE c.id) m.ax k hk;have e:uE c.id k=k.move.aU:=ai ⟨h1,Ef.symm⟩;show k.move.aU<=c.cp+S (uE c.id) m.ax;omega
 ·show c.cp+S (uE c.id) m.ax+(c.cq+S (uk c.id) m.ax)<bG;have:=hg.uO c TQ;omega
def ZG{b:aZ}{m:aA}(hs:pC b m)(hg:Md.bK m):∀k∈b.ax,has k.move.aq 2->k.fate<=1->k.fate=1/\ND b k:=λk hk h2 hf=>by
 rw[hs.ax] at hk;have:=hg.vB k hk;have h1:k.fate=1:=by have:=this.2.2.1 h2;omega
 exact⟨h1,Hl hs hg hk h1⟩
def GX(c:Int)(k:ch):ch:=if kJ c k then{k with fate:=4} else k
def DW(c:Int)(l:List ch):Nat:=(l.filter λk=>kJ c k).length
def I0{c:Int}:∀{l:List ch} {i:Nat}(hi:i<l.length),kJ c l[i]->DW c (l.set i {l[i] with fate:=4})+1=DW c l
 |x::l,0,hi,h=>by
  have h2: ¬kJ c {x with fate:=4}:=λhh=>aQ hh.1 (show ¬(4:Int)=1 by decide);have h:kJ c x:=h;show((({x with fate:=4}:ch)::l).filter _).length+1=((x::l).filter _).length;rw[lR (by simpa using h2),lQ (by simpa using h),bE]
 |x::l,i+1,hi,h=>by
  have:=I0 (c:=c) (l:=l) (i:=i) (by simpa using hi) h;show((x::l.set i _).filter _).length+1=((x::l).filter _).length;by_cases hx:kJ c x
  ·rw[lQ (by simpa using hx),lQ (by simpa using hx),bE,bE];exact congrArg (·+1) this
  ·rw[lR (by simpa using hx),lR (by simpa using hx)];exact this
structure ZL(m m':aA):Prop where
 cE:m'.cE=m.cE
 ay:m'.ay=m.ay
 clock:m'.clock=m.clock
 ax:m'.ax.map (GX m.clock)=m.ax.map (GX m.clock)
def ZL.refl(m:aA):ZL m m:=⟨rfl,rfl,rfl,rfl⟩
def I4{b:aZ}{m0 m:aA}(hs:pC b m)(hg:Md.bK m)(hx:ZL m0 m){k:ch}(hk:k∈b.ax)(ho:kJ b.clock k):
 b.named k.move.id=some k/\ND b k/\∃m',pC (b.release k.move 0 4) m'/\Md.bK m'/\ZL m0 m'/\DW m0.clock m'.ax+1=DW m0.clock m.ax:=by
 rw[hs.ax] at hk;rw[hs.clock] at ho;obtain⟨i,hi,rfl⟩:=List.getElem_of_mem hk;have Rb:b.named m.ax[i].move.id=some m.ax[i]:=by
  have:=Aj (key:=λx:ch=>x.move.id) hg.names hi;rw[hs.Kj];exact(xv (key:=λx:ch=>x.move.id) this).2.2
 refine⟨Rb,Hl hs hg hk ho.1,m.dH i 4,hs.release hg hi ho.1 (.inr rfl) 0,hg.dH hi ho.1 (.inr (.inr rfl)),⟨hx.cE,hx.ay,hx.clock,?_⟩,?_⟩
 ·rw[<-hx.ax];rw[hx.clock] at ho;exact(MY hi m0.clock).resolve_right (λhh=>hh ho)
 ·rw[hx.clock] at ho;rw[oq hi];exact I0 hi ho
def I5{b:aZ}{m0 m:aA}(hs:pC b m)(hx:ZL m0 m)(h:∀k∈b.ax,¬kJ b.clock k):m={m0 with ax:=m0.ax.map (GX m0.clock)}:=by
 have h2:m.ax.map (GX m0.clock)=m.ax:=MZ (m:=m) (clock:=m0.clock) λk hk=>by
  have:=h k (by rw[hs.ax];exact hk);rwa[hs.clock,hx.clock] at this
 rw[<-hx.ax,h2];obtain⟨x1,x2,x3,x4⟩:=hx;cases m;cases m0
 simp only at x1 x2 x3;subst x1;subst x2;subst x3;rfl
def ve(m:aA)(now:Int):aA:={m with clock:=if m.clock<now/\now<=1099511627776 then now else m.clock}
def JS(m:aA)(now:Int):m.time now={ve m now with ax:=(ve m now).ax.map (GX (ve m now).clock)}:=rfl
def Ty{b:aZ}{m:aA}(hs:pC b m)(now:Int):pC (Go.Up.tick b now) (ve m now):=⟨hs.aB,hs.ax,by unfold Go.Up.tick ve;simp only[hs.clock],hs.ay⟩
def Et{m:aA}(hg:Md.bK m)(now:Int):Md.bK (ve m now):=⟨hg.zero,hg.ids,hg.og,hg.names,hg.vB,hg.wg,hg.some_,hg.yG,hg.uO,hg.wE⟩
def SK(n:Int):dm .i64 .and n 1=n%2:=by
 unfold dm;have e1:(BitVec.ofInt aa.bits n&&&BitVec.ofInt aa.bits 1).toNat=(BitVec.ofInt 64 n).toNat%2:=by
  rw[BitVec.toNat_and];show(BitVec.ofInt 64 n).toNat&&&1=_;exact Nat.and_one_is_mod _
 dsimp only;rw[e1];have e2:(((BitVec.ofInt 64 n).toNat%2:Nat):Int)=n%2:=by
  rw[BitVec.toNat_ofInt];omega
 rw[e2];exact aW (by omega)
def SJ{n:Int}(h0:0<=n)(h1:n<=7):dm .i64 .andNot n 1=n/2* 2:=by
 have:n=0\/n=1\/n=2\/n=3\/n=4\/n=5\/n=6\/n=7:=by omega
 rcases this with rfl|rfl|rfl|rfl|rfl|rfl|rfl|rfl<;>rfl
section
variable {α:Type} {W:World} {R L:LH} {K:VK} {X:WK} {g:α->LV} {e:Nat} {s:OA} {l:List α}
def mZ(W:World)(R:LH)(g:α->LV)(e:Nat)(s:OA)(l:List α):Prop:=
 ∀w,St W w R->∀i x,l[i]?=some x->∃a,s=some a/\y4 w (a.add (i* e)) (g x)
def iU{i:Int}{n:Nat}{K:Addr->WK}[hh:Has R L](hr:mZ W R g e s l)(hi:0<=i/\i<l.length)(hn:n=l.length)(h:∀a,s=some a->T W L (K (a.add (i.toNat* e)))):T W L (iV s n i e K):=λw hs=>by
 obtain⟨a,ha,-⟩:=hr w (hh.sub hs) i.toNat _ (aj (by omega));exact⟨a,ha,⟨hi.1,by omega⟩,h a ha w hs⟩
def jR{i:Nat}{x:α}{a:Addr}{K:LV->WK}[hh:Has R L](hr:mZ W R g e s l)(hs:s=some a)(hx:l[i]?=some x)(hg:(g x).length=e)(h:T W L (K (g x))):T W L (aJ (a.add (i* e)) e K):=λw hw=>by
 obtain⟨a',ha,hh⟩:=hr w (hh.sub hw) i x hx;rw[hs] at ha;cases ha
 exact⟨g x,hg,hh,h w hw⟩
def mZ.drop{c i:Nat}(hr:mZ W R g e s l)(hi:i<=l.length)(hc:l.length<=c):mZ W R g e (zw s c i e) (l.drop i):=λw hw j x hx=>by
 rw[sJ] at hx;obtain⟨a,ha,hh⟩:=hr w hw (i+j) x hx;have bX:=(ao.1 hx).1;unfold zw;rw[ag (by omega),ha];refine⟨a.add (i* e),rfl,?_⟩;rw[add_add,<-mA];exact hh
def mZ.take{i:Nat}(hr:mZ W R g e s l):mZ W R g e s (l.take i):=λw hw j x hx=>by
 refine hr w hw j x ?_;rw[sH] at hx;split at hx
 ·exact hx
 ·cases hx
def ER{b:OA}{n c i j e:Nat}{K:OA->Nat->Nat->WK}(hi:i<=j)(hj:j<=c)(h:T W L (K (zw b c i e) (j-i) (c-i))):T W L (sO b n c e (some (i:Int)) (some (j:Int)) K):=by
 unfold sO;refine dO ⟨by omega,by omega⟩ ?_;dsimp only;refine dO ⟨by omega,by omega⟩ ?_;rw[ak,ak];exact h
end
def I1(i:Int):LV:=[.i i]
def K6(i:Int):(I1 i).length=1:=rfl
section
variable {W:World} {L:LH} {K:VK} {X:WK} {f:HP->LH}
def Ky{r N C o n i:Nat}{c:Nat}{v:Int}{l:List Int}[j:u9 (some ⟨r,0,none⟩) N C L 1 (l.flatMap I1) f](ho:o+n<=l.length)(hi:i<n)(hn:n<1000000)
 (h:T W (f (own (some ⟨r,0,none⟩) N C 1 ((l.take o++lg n (some (i,v))++l.drop (o+n)).flatMap I1))) (K (.tuple ⟨[]⟩))):T W L (jV (some ⟨r,o,none⟩) n c i v K):=by
 unfold jV;intro w hs;obtain⟨k,hk,e1⟩:=j.at_;have AH:min o l.length=o:=rr (by omega)
 let st:Nat->List Int:=λm=>l.take o++bu m 1++l.drop (o+m)
 have uZ:∀m,m<=n->(st m).length=l.length:=λm hm=>by simp only[st,aw,aD,AH,nB,aT];omega
 refine⟨λvs w=>∃m:Nat,m<=n/\vs=[.i (n:Int),.i (m:Int)]/\St W w (f (own (some ⟨r,0,none⟩) N C 1 ((st m).flatMap I1))),λvs _=>match vs with|[_,.int _ d]=>n-d.toNat|_=>0,⟨0,aE _,rfl,?_⟩,?_⟩
 ·have:st 0=l:=by simp[st]
  rw[this,e1,nT hk];exact hs
 rintro n3 n4 w2 ⟨m,hm,e,hO⟩;cases e
 rw[e1] at hO;have q8:(L.set k (own (some ⟨r,0,none⟩) N C 1 ((st m).flatMap I1)))[k]?=some (own (some ⟨r,0,none⟩) N C 1 ((st m).flatMap I1)):=kr hk;have one:∀v∈I1 1,v.oneCell'=true:=λv hv=>by simp[I1] at hv;subst hv;rfl
 by_cases bX:m<n
 ·rw[av (by omega)];rw[lz];refine⟨_,rfl,⟨by omega,by omega⟩,?_⟩;rw[ig,ak,mz];refine CY hO q8 (by rw[Cx K6,uZ m hm];omega) rfl λw3 xf=>?_;have e5:=nK m;rw[e5];refine⟨⟨m+1,bX,rfl,?_⟩,by show n-((m+1:Nat):Int).toNat<n-(m:Int).toNat;omega⟩;rw[e1];rw[jM] at xf;have e6:((st m).flatMap I1).set (o+m) (Value.int aa 1)=(st (m+1)).flatMap I1:=by
   have:=Dr (g:=I1) (l:=st m) (o:=o+m) (y:=1) (j:=0) (v:=.i 1) K6 (aj (by rw[uZ m hm];omega)) rfl (by decide);have e7:(st m).set (o+m) 1=st (m+1):=by
    have hd:l.drop (o+m)=l[o+m]'(by omega)::l.drop (o+m+1):=ij (by omega);have hAB:(l.take o++bu m (1:Int)).length=o+m:=by rw[aw,aD,nB,AH]
    simp only[st];rw[hd,List.set_append_right _ _ (by omega),hAB,mg,List.set_cons_zero,List.replicate_succ'];simp[Nat.add_assoc]
   rw[<-e7,<-this,mz,eL]
  rw[e6] at xf;exact xf
 ·have hmn:m=n:=by omega
  subst hmn;rw[ar (by omega),eK];refine⟨_,rfl,⟨by omega,by omega⟩,?_⟩;rw[ig,ak,mz];refine CY hO q8 (by rw[Cx K6,uZ m hm];omega) rfl λw3 xf=>?_;refine h w3 ?_;rw[e1];rw[jM] at xf;have e6:((st m).flatMap I1).set (o+i) (Value.int aa v)=(l.take o++lg m (some (i,v))++l.drop (o+m)).flatMap I1:=by
   have:=Dr (g:=I1) (l:=st m) (o:=o+i) (y:=v) (j:=0) (v:=.i v) K6 (aj (by rw[uZ m hm];omega)) rfl (by decide);have e7:(st m).set (o+i) v=l.take o++lg m (some (i,v))++l.drop (o+m):=by
    simp only[st,lg];rw[aI,List.set_append_right _ _ (by rw[aD,AH];omega),List.set_append_left _ _ (by rw[aD,AH,nB];omega),<-aI]
    congr 3
    rw[aD,AH];omega
   rw[<-e7,<-this,mz,eL]
  rw[e6] at xf;exact xf
end
section
variable {α σ:Type}
def yL{linked:α->Bool}:∀{l:List α} {i:Nat} {x:α},(∀j y,j<i->l[j]?=some y->linked y=true)->l[i]?=some x->linked x=false->cz linked l=(i+1,true)
 |[],i,x,_,hx,_=>by simp at hx
 |y::l,0,x,_,hx,hn=>by simp at hx;subst hx;unfold cz;rw[ag (by simp[hn])]
 |y::l,i+1,x,h,hx,hn=>by
  unfold cz;rw[ai (h 0 y (by omega) rfl),yL (l:=l) (i:=i) (λj z hj hz=>h (j+1) z (by omega) (by simpa using hz)) (by simpa using hx) hn]
def wH{linked:α->Bool}:∀{l:List α},(∀x∈l,linked x=true)->cz linked l=(l.length,false)
 |[],_=>rfl
 |y::l,h=>by unfold cz;rw[ai (h y (by simp)),wH λx hx=>h x (by simp[hx])];rfl
def vH{linked:α->Bool}:∀(l:List α),(cz linked l).1<=l.length
 |[]=>aH _
 |y::l=>by unfold cz;split<;>simp;exact vH l
def En{linked:α->Bool}(x:α)(l:List α):0<(cz linked (x::l)).1:=by unfold cz;split<;>simp
def yK{linked:α->Bool}:∀{l:List α},(cz linked l).2=false->(cz linked l).1=l.length
 |[],_=>rfl
 |y::l,h=>by
  unfold cz at h⊢;split at h
  ·rename_i hy;rw[ai hy];show _+1=_;rw[yK h];rfl
  ·cases h
def tg{f:σ->α->Int×σ}:∀(l m:List α)(s s':σ)(i:Nat),iE f s l i=(none,s')->iE f s (l++m) i=iE f s' m (i+l.length)
 |[],m,s,s',i,h=>by cases h;rfl
 |x::l,m,s,s',i,h=>by
  unfold iE at h;split at h
  ·cases h
  ·rename_i h0;rw[lV];show iE f s (x::(l++m)) i=_;rw[iE,ag h0,tg l m _ _ _ h,bE,Nat.add_right_comm,Nat.add_assoc]
def kX(n:Nat)(e:Option (Nat×Int)):(lg n e).length=n:=by cases e<;>simp[lg]
end
section
variable {W:World} {L R:LH} {K:VK} {X:WK} {p:Nat} {b:aZ} {hs:List C} {f:aZ×List C->LH}
def XX[i:Lc (cL p) L (b,hs) f]{a:bJ}(og:32<=b.aB.length)(h:T W L (K (.i 6))):T W L (mX (ah p) (aL a) K):=by
 have hL:f (b,hs)=L:=i.same;refine NP (p:=p) λla lk ti tn vs bx R hg hc qj=>?_;have fin:=qj [] b hs vs bx _ hg hc (by rw[hL];exact h);unfold mX;apply ws;intros;refine P6 (l:=la) ?_;apply ws;intros;refine mP (by show decide (((b.aB.length:Nat):Int)>=32)=true;simp;omega) ?_;exact T.dp fin
def QC[i:Lc (cL p) L (b,hs) f]{b0:aZ}{jO:List C}{n:Nat}(hg:ft b0)(hx:Ext (fY b0) jO (fY b) hs n)(hl:hs.length<1000000)(h:T W (f (b0,jO)) (K (.tuple ⟨[]⟩))):T W L (fU (ah p) (jO.length:Int) K):=λw hw=>by
 obtain⟨k,hk,e1⟩:=i.at_;have h1:=hw.focus hk;obtain⟨-,h2⟩:=h1.and;refine(show T W (cP p (fY b,hs)::L.eraseIdx k) _ from ?_) w h2;unfold fU;apply ws;intros;refine acI (p:=p) hl ?_;rw[hx.back];apply ws;intros;intro w2 hw2;refine h w2 ?_;rw[e1];exact St.rZ (A:=cL p (b,hs)) (St.and_intro hg hw2) hk
def Pz{a:bJ}(h:uw a=0):0<=a.aq/\a.aq<=7/\a.dp=0/\a.dq=0/\a.cp=0/\a.cq=0/\a.ay=0/\(1<=a.ba/\a.ba<=4294967295)/\1<=a.code/\a.code<=65535:=by
 unfold uw at h
 repeat' (first|(split at h;first|(exact aQ h (by decide))|skip)|skip)
 omega
def Zq(G:mY W){a:bJ}(ha:xR a)[i:Lc (cL p) L (b,hs) f](hl:hs.length<900000)
 (h:∀fM,Ext (fY b) hs (fY (b.make a).2) fM 8->T W (f ((b.make a).2,fM)) (K (.i (b.make a).1))):T W L (mr (ah p) (aL a) K):=by
 have hL:f (b,hs)=L:=i.same;refine qP (p:=p) λhg=>?_;unfold mr
 repeat' first|apply ws;intros|apply wb|with_reducible refine WM G ha ?_|fail
 have stay:∀r:Int,b.make a=(r,b)->T W L (K (.int .i64 r)):=λr e=>by
  rw[e] at h;have:=h hs (Ext.refl _ _ _);rw[hL] at this;exact this
 apply dj<;>intro g1
 ·have g1:uw a≠0:=by simpa using g1
  have:=stay (uw a) (by unfold aZ.make;rw[ai g1]);exact T.dp this
 have g1:uw a=0:=by simpa using g1
 have ck:=Pz g1
 repeat' first|apply ws;intros|apply wb|with_reducible refine xQ (p:=p) ?_|fail
 cases hf:b.find a.id with
 |some x=>
  simp only[dG,dE];obtain⟨gx,hxi⟩:=xD hg hf
  repeat' first|apply ws;intros|apply wb|with_reducible refine WN ⟨ck.1,by omega⟩ ⟨gx.aq.1,by have:=gx.aq.2;omega⟩ ?_|fail
  have:=stay (ux a x) (by unfold aZ.make;rw[ag (by omega),hf]);exact T.dp this
 |none=>
  simp only[fp,gV];apply ws;intros;rw[SJ ck.1 ck.2.1];by_cases og:b.aB.length<32
  ·have hga:AG {({a with aq:=a.aq/2* 2}:bJ) with ay:=b.ay+1}:=by
    have uZ:=hg.ay;have many:=hg.many;refine⟨⟨ha.id,ha.dp,ha.dq,ha.cp,ha.cq,?_,?_,?_,?_⟩,⟨⟨by show 0<=a.ba;omega,by show a.ba<=_;omega⟩,⟨by show 0<=a.code;omega,by show a.code<=_;omega⟩,by show 0<=a.aq/2* 2;omega,by show a.aq/2* 2<=_;omega⟩,⟨by show 0<=a.aq/2* 2;omega,by show a.aq/2* 2<_;omega⟩,by show 0<=b.ay+1;omega,by show b.ay+1<_;omega⟩
    ·show vS a.ba;unfold vS;omega
    ·show vS a.code;unfold vS;omega
    ·show vS (a.aq/2* 2);unfold vS;omega
    ·show vS (b.ay+1);unfold vS;omega
   refine XW (p:=p) (a:={a with aq:=a.aq/2* 2}) hf og hga hl λfM hx=>?_;apply ws;intros;have e:b.make a=(0,b.more {a with aq:=a.aq/2* 2}):=by
    unfold aZ.make aZ.more;rw[ag (by omega),hf];dsimp only;rw[ag (by omega)]
   rw[e] at h;have:=h fM (hx.mono (by omega));exact T.dp this
  ·refine XX (p:=p) (a:={a with aq:=a.aq/2* 2}) (by omega) ?_;apply ws;intros;have:=stay 35 (by unfold aZ.make;rw[ag (by omega),hf];dsimp only;rw[ai (by omega)]);exact T.dp this
end
end Go.Up
