/- Part of the proof: see the last text. -/
import Derived.Test.YtdeklijinefhkaaGreatDoorPB
set_option linter.all false
set_option maxRecDepth 100000
set_option synthInstance.maxSize 100000
open Bool renaming eq_iff_iff→cj,false_eq_true→cM,false_ne_true→cO
open Decidable renaming not_not→bp
open Go.IntKind renaming i64→aa
open Int renaming toNat_natCast→ak,le_refl→eE,fdiv_eq_ediv_of_nonneg→Hs
open List renaming map_cons→dx,map_nil→ou,getElem?_eq_getElem→aj,getElem?_eq_some_iff→ar,replicate→bw,append_nil→bR,map_append→cF,getElem?_set→dk,getElem?_map→fy,flatMap_append→gj,flatMap_cons→iQ,range→qk,getElem?_eq_none→qu,ext_getElem?→qX,getElem?_range→rL,map_map→sY,length_cons→bE,mem_of_getElem?→cD,mem_or_eq_of_mem_set→fq,length_set→je,length_replicate→kV,set_cons_succ→nN,getElem?_of_mem→qW,take_length→aV,Perm→cf,perm_middle→iM,take_succ_eq_append_getElem→qV,length_append→av,length_take→aD,append_assoc→aH,length_drop→aS,take_add_one→bg,take_append_drop→dy,length_reverse→jx,pairwise_iff_getElem→kC,getElem?_drop→ta,perm_append_comm→bG,getElem?_append_left→ch,drop_eq_getElem_cons→gh,drop_of_length_le→gG,getElem?_take→s8,length_singleton→qt,Sublist→bm,mem_map→cV,mem_cons→ka,nil_append→cQ,set_set→jH,take_zero→mR,reverse_cons→yL,take_left→Dv,mem_append→dB,map_congr_left→jv,mem_of_find?_eq_some→nD,find?_eq_none→ql,mem_singleton→Dw,getElem_mem→bF,length_map→bQ,getElem?_cons_succ→bX,cons_append→lY,Mem→dR,getElem?_append_right→iN,filter_cons_of_pos→lW,filter_cons_of_neg→lX
open Nat renaming zero_add→aB,zero_le→aF,mod_eq_of_lt→fG,mul_le_mul_right→iA,add_mul→mG,mul_comm→wI,pow_le_pow_right→gO,le_refl→aI,add_zero→gM,pow_succ→Av,sub_self→kR,mul_one→mF,min_eq_left→rE
open Option renaming some→bA,map_some→fm,getD_some→dI,isSome_some→dL,isSome_none→ff,getD_none→gQ,map→yZ
namespace Go.Up
open Go.Sep Go.Den Go.RowKit Go.Prog Go.Md
def Kn:∀(xs ys:List Int),xs.length=ys.length->iK (xs.map (.int .i64)) (ys.map (.int .i64))=decide (xs=ys)
 |[],[],_=>rfl
 |[],_::_,h=>by simp at h
 |_::_,[],h=>by simp at h
 |x::xs,y::ys,h=>by
  simp only[dx,iK,Bc];rw[Kn xs ys (by simpa using h),cj];simp
def oA{a b:Nat}{xs ys:LV}:iK (nm a++xs) (nm b++ys)=(decide (a=b)&&iK xs ys):=by rw[uy (show(nm a).length=(nm b).length from rfl),Vg]
def Km(t u:cH):iK (aN t) (aN u)=decide (t=u):=by
 have e:=Kn [t.cB,t.bJ,t.code,t.aq,t.ay,t.iE] [u.cB,u.bJ,u.code,u.aq,u.ay,u.iE] rfl;simp only[dx,ou] at e;unfold aN;rw[oA,oA,oA,oA,oA,e];rw[cj];obtain⟨a,b,c,d,e,f,g,h,i,j,k⟩:=t;obtain⟨a',b',c',d',e',f',g',h',i',j',k'⟩:=u;simp[and_assoc]
def YJ(t u:bP):iK (aO t) (aO u)=decide (t=u):=by
 have e:=Kn [t.bJ,t.code,t.aq,t.ay] [u.bJ,u.code,u.aq,u.ay] rfl;simp only[dx,ou] at e;unfold aO;rw[oA,oA,oA,oA,oA,e];rw[cj];obtain⟨a,b,c,d,e,f,g,h,i⟩:=t;obtain⟨a',b',c',d',e',f',g',h',i'⟩:=u;simp[and_assoc]
def YI(t u:cr):iK (bM t) (bM u)=decide (t=u):=by
 unfold bM;rw[uy (show(aN t.asked).length=(aN u.asked).length from rfl),uy (show(aN t.move).length=(aN u.move).length from rfl),Km,Km,cj];obtain⟨a,b,c⟩:=t;obtain⟨a',b',c'⟩:=u;simp[iK,Bc]
section
variable {W:World} {L:LH} {K:VK} {a b:bP} {t u:cH} {k j:cr}
def ZK{K:Bool->WK}(h:T W L (K (decide (t=u)))):T W L (sm [.u 0,.u 0,.u 0,.u 0,.u 0,.u 0,.u 0,.u 0,.u 0,.u 0,.i 0,.i 0,.i 0,.i 0,.i 0,.i 0] (aN t) (aN u) K):=Pt rfl rfl (by rw[Km];exact h)
def ZM{K:Bool->WK}(h:T W L (K (decide (a=b)))):T W L (sm [.u 0,.u 0,.u 0,.u 0,.u 0,.u 0,.u 0,.u 0,.u 0,.u 0,.i 0,.i 0,.i 0,.i 0] (aO a) (aO b) K):=Pt rfl rfl (by rw[YJ];exact h)
def acL{K:Bool->WK}(h:T W L (K (decide (k=j)))):T W L (sm [.u 0,.u 0,.u 0,.u 0,.u 0,.u 0,.u 0,.u 0,.u 0,.u 0,.i 0,.i 0,.i 0,.i 0,.i 0,.i 0,.u 0,.u 0,.u 0,.u 0,.u 0,.u 0,.u 0,.u 0,.u 0,.u 0,.i 0,.i 0,.i 0,.i 0,.i 0,.i 0,.i 0] (bM k) (bM j) K):=Pt rfl rfl (by rw[YI];exact h)
def Ps{cs:LV}{n j:Nat}{v:Value}{K:VK}(hj:j<n)(hv:cs[j]?=some v)(h:T W L (K v)):T W L (DQ cs n (j:Int) K):=λw hs=>⟨v,⟨by omega,by omega,by rw[ak];exact hv⟩,h w hs⟩
def V3(ha:0<=a.aq/\a.aq<256)(hb:0<=b.aq/\b.aq<256)(h:T W L (K (.i (uN a b)))):T W L (qI (aO a) (aO b) K):=by
 unfold qI qI.j1
 repeat' first|apply ws;intros|apply wb|apply dz<;>intro h1
 all_goals
  apply T.fin (T.dp h)
  congr 1
  unfold uN
  all_goals try simp only[aao ha.1 ha.2,aao hb.1 hb.2,bz] at *
  all_goals (split<;>omega)
def KQ(hf:0<=t.aq/\t.aq<256)(h:T W L (K (.b (decide (jZ t.aq))))):T W L (tu (aN t) K):=by
 unfold tu;apply ws;intros;apply T.fin (T.dp h);congr 1;(rw[cj];(try simp only[bz,false_iff,true_iff] at *)<;>(try simp only[aan hf.1 hf.2,bp] at *)<;>omega)
def vj(hf:0<=t.aq/\t.aq<256)(h:T W L (K (.b (decide (has t.aq 2))))):T W L (mH (aN t) K):=by
 unfold mH;apply ws;intros;apply T.fin (T.dp h);congr 1;(rw[cj];(try simp only[bz,false_iff,true_iff] at *)<;>(try simp only[MZ hf.1 hf.2,bp] at *)<;>omega)
def Hk(hf:0<=t.aq/\t.aq<256)(h:T W L (K (.b (decide (has t.aq 16\/has t.aq 32))))):T W L (rj (aN t) K):=by
 unfold rj;apply ws;intros;apply T.fin (T.dp h);congr 1;(rw[cj];(try simp only[bz,false_iff,true_iff] at *)<;>(try simp only[aeO hf.1 hf.2,bp] at *)<;>omega)
def Li(ht:0<=t.aq/\t.aq<256)(hu:0<=u.aq/\u.aq<256)(h:T W L (K (.i (tK t u)))):T W L (vm (aN t) (aN u) K):=by
 unfold vm
 repeat' first|apply ws;intros|apply wb|refine ZK ?_
 rw[aam ht.1 ht.2,aam hu.1 hu.2];unfold tK at h;have e:({t with aq:=t.aq/2* 2}:cH)={u with aq:=u.aq/2* 2}↔({t with aq:=t.aq/2}:cH)={u with aq:=u.aq/2}:=by
  have S6:t.aq/2* 2=u.aq/2* 2↔t.aq/2=u.aq/2:=by omega
  simp only[Md.cH.mk.injEq,S6]
 apply ga<;>intro h1
 ·rw[ai (e.1 (h1))] at h;exact T.dp h
 ·rw[ag (λhh=>h1 (e.2 hh))] at h;exact T.dp h
def Ew(f:Int)(i:Nat):Int:=(([2,4,8]:List Int).take i).foldl (λn b=>if has f b then n+1 else n) 0
def NL(hf:0<=t.aq/\t.aq<256)(h:T W L (K (.b (decide (jo t.aq))))):T W L (lu (aN t) K):=by
 unfold lu;apply ws;intros;rename_i r;intro w hs;refine⟨λvs w=>∃i:Nat,i<=3/\vs=[.p (some (ad r 0)),.b false,.i (Ew t.aq i),.agg ⟨[.i 2,.i 4,.i 8]⟩,.i (i:Int)]/\St W w (Sep.pt r (aN t)::L),
  λvs _=>match vs with|[_,_,_,_,.int _ j]=>3-j.toNat|_=>0,⟨0,aF _,rfl,hs⟩,?_⟩
 rintro a1 b1 n1 GU n2 w2 ⟨j,hj,e,hs⟩;cases e
 refine T.at ?_ hs;simp only[ia,aB];apply ga<;>intro h1
 ·have cn:j<3:=by omega
  have e5:=nI j;have key:∃m:Int,([.i 2,.i 4,.i 8]:LV)[j]?=some (.i m)/\(dj .i64 .and t.aq m=0↔ ¬has t.aq m)/\Ew t.aq (j+1)=(if has t.aq m then Ew t.aq j+1 else Ew t.aq j)/\0<=Ew t.aq j/\Ew t.aq j<=j:=by
   match j,cn with
   |0,_=>exact⟨2,rfl,MZ hf.1 hf.2,rfl,eE 0,eE 0⟩
   |1,_=>exact⟨4,rfl,MY hf.1 hf.2,rfl,by simp only[Ew,List.take,List.foldl];split<;>decide,by simp only[Ew,List.take,List.foldl];split<;>decide⟩
   |2,_=>exact⟨8,rfl,VO hf.1 hf.2,rfl,by simp only[Ew,List.take,List.foldl];split<;>split<;>decide,by simp only[Ew,List.take,List.foldl];split<;>split<;>decide⟩
  obtain⟨m,k1,k2,k3,k4,k5⟩:=key;apply Ps (by omega) k1
  repeat' first|apply ws|apply wb|apply dz<;>intro h1
  all_goals rw[e5]
  ·have h2:has t.aq m:=by
    have:=(fM.1 h1);rw[ne_eq,k2,bp] at this;exact this
   rw[ai h2] at k3;rw[aX (by omega),<-k3];exact λw3 h3=>⟨⟨j+1,cn,rfl,h3⟩,dn (by omega)⟩
  ·have h2: ¬has t.aq m:=k2.1 (bne_eq_false_iff_eq.1 h1);rw[ag h2] at k3;rw[<-k3];exact λw3 h3=>⟨⟨j+1,cn,rfl,h3⟩,dn (by omega)⟩
 ·have he:j=3:=by omega
  subst he;have hc:Ew t.aq 3<=1↔ ¬(has t.aq 2/\has t.aq 4\/has t.aq 2/\has t.aq 8\/has t.aq 4/\has t.aq 8):=by
   simp only[Ew,List.take,List.foldl];by_cases h2:has t.aq 2<;>by_cases h4:has t.aq 4<;>by_cases h8:has t.aq 8<;>simp[h2,h4,h8]
  simp only[lu.j1,ia,aB]
  repeat' first|apply ws|apply wb|first|refine KQ hf ?_|refine vj hf ?_|apply dz<;>intro h1
  all_goals
   apply T.fin (T.dp h)
   congr 1
   rw[cj]
   all_goals try simp only[aan hf.1 hf.2,ahS hf.1 hf.2,ahT hf.1 hf.2,hc,true_iff,false_iff,bz] at *
   all_goals (unfold jo;simp_all<;>(intros;omega))
def Sw(t:cH):Int:=if t.pending=0 then 16 else if t.bJ<0\/4294967296<=t.bJ then 8 else if t.code<0\/65536<=t.code then 9 else 0
def Sv(t:cH):Int:=if t.bI=0 then 12 else if t.aU=0 then 13 else if t.bI=t.aU then 14 else if t.pending≠0 then 15 else if t.a8=0/\ ¬has t.aq 16/\ ¬has t.aq 32 then 18
 else if t.bJ<1\/4294967296<=t.bJ then 8 else if t.code<1\/65536<=t.code then 9 else 0
def Vj(h:T W L (K (.i (Sw t)))):T W L (pg (aN t) K):=by
 unfold pg pg.j1
 repeat' first|apply ws;intros|apply wb|first|refine vR ?_|apply dz<;>intro h1
 all_goals try simp only[bz] at *
 all_goals (apply T.fin (T.dp h);congr 1;unfold Sw;repeat' split)
 all_goals omega
def UA(hf:0<=t.aq/\t.aq<256)(h:T W L (K (.i (Sv t)))):T W L (kD (aN t) K):=by
 unfold kD kD.j1 kD.j2
 repeat' first|apply ws;intros|apply wb|first|refine vR ?_|refine Hk hf ?_|apply dz<;>intro h1
 all_goals try simp only[bz] at *
 all_goals (apply T.fin (T.dp h);congr 1;unfold Sv has at *;repeat' split)
 all_goals first|rfl|omega
def Lh(G:oH W)(ht:yF t)(h:T W L (K (.i (nL t)))):T W L (fD (aN t) K):=by
 by_cases hf:0<=t.aq/\t.aq<256
 ·unfold fD fD.j1 fD.j2 fD.j4 fD.j3;rw[show nL t=if t.aq<0\/255<t.aq then 3 else if t.id=0 then 4 else if t.id=bO-1 then 5 else if ¬jo t.aq then 6
   else if t.ay≠0\/t.iE≠0 then 7 else if t.cB<0\/1073741824<t.cB\/0<t.cB/\ ¬has t.aq 2 then 17
   else if jZ t.aq then Sw t else Sv t from rfl] at h
  repeat' first|apply ws;intros|apply wb|first|refine vR ?_|refine Pr ⟨zx _,G.XY⟩ ?_|refine NL hf ?_|refine KQ hf ?_|refine vj hf ?_|refine Vj ?_|refine UA hf ?_|apply dz<;>intro h1
  all_goals try simp only[bz] at *
  all_goals (apply T.fin (T.dp h);congr 1;repeat' split)
  all_goals first|rfl|omega|(simp_all;done)|(simp_all;omega)
 ·unfold fD fD.j1;rw[show nL t=3 from ai (by omega)] at h;apply ws;intros;apply ga<;>intro h1
  ·rw[lC];exact T.dp h
  apply ws;rw[aw (by omega),lC];exact T.dp h
end
end Go.Up
namespace Go.Md
def ja(a:bP)(bI:Bool):Nat:=if bI then a.cq-(a.dp+a.dq) else a.dq-(a.cp+a.cq)
def more(a:bP)(bI:Bool)(n:Nat)(pending:Bool):bP×Int:=
 if bI then
  (if bO<=a.dp+a.dq+n then(a,32) else if has a.aq 2/\ja a true<n then(a,33) else(if pending then{a with dp:=a.dp+n} else{a with dq:=a.dq+n},0))
 else
  (if bO<=a.cp+a.cq+n then(a,32) else if has a.aq 4/\ja a false<n then(a,34) else(if pending then{a with cp:=a.cp+n} else{a with cq:=a.cq+n},0))
def aA.full(m:aA)(a:bP):bP:=m.ax.foldl ya a
def aA.find(m:aA)(id:Nat):Option bP:=m.cW.find? λa=>a.id=id
def aA.name(m:aA)(id:Nat):Option Nat:=m.ax.findIdx? λk=>k.move.id=id
def aA.make(m:aA)(a:bP):Int×aA:=
 if uM a≠0 then(uM a,m) else match m.find a.id with
 |some x=>(uN a x,m)
 |none=>if 32<=m.cW.length then(35,m) else(0,{m with ay:=m.ay+1,cW:=m.cW++[{a with ay:=m.ay+1,aq:=a.aq/2* 2}]})
def aA.mw(m:aA)(asked t:cH)(fate:Int):aA:=
 {m with ay:=m.ay+1,ax:=m.ax++[⟨asked,{t with ay:=m.ay+1,iE:=m.clock},fate⟩]}
def de(t:cH)(d c:bP):Nat×Int:=
 let n0:=if t.a8=0 then bO-1 else t.a8
 let n1:=if has t.aq 16 then min n0 (ja d true) else n0
 if has t.aq 16/\n1=0 then(0,33) else
 let n2:=if has t.aq 32 then min n1 (ja c false) else n1
 if has t.aq 32/\n2=0 then(0,34) else(n2,0)
def jI(t:cH)(named:Option cr)(d c:Option bP)(many:Nat):Int×Nat:=
 if nL t≠0 then(nL t,0) else if jZ t.aq then(6,0) else match named with
 |some k=>(tK t k.asked,0)
 |none=>match d with
  |none=>(19,0)
  |some d=>match c with
   |none=>(20,0)
   |some c=>
    if d.bJ≠c.bJ then(21,0) else if d.bJ≠t.bJ then(22,0) else if 8<=d.aq then(30,0) else if 8<=c.aq then(31,0)
    else if 96<=many then(35,0)
    else if(de t d c).2≠0 then((de t d c).2,0)
    else if(more d true (de t d c).1 (decide (has t.aq 2))).2≠0 then((more d true (de t d c).1 (decide (has t.aq 2))).2,0)
    else if(more c false (de t d c).1 (decide (has t.aq 2))).2≠0 then((more c false (de t d c).1 (decide (has t.aq 2))).2,0)
    else(0,(de t d c).1)
def waits(t:cH):Int:=if has t.aq 2 then 1 else 0
def aA.named(m:aA)(id:Nat):Option cr:=m.ax.find? λk=>k.move.id=id
def aA.move(m:aA)(t:cH):Int×aA:=
 let r:=jI t (m.named t.id) ((m.find t.bI).map m.full) ((m.find t.aU).map m.full) m.ax.length
 if r.1≠0 then(r.1,m) else(0,m.mw t {t with a8:=r.2} (waits t))
def aA.closed(m:aA)(id:Nat)(Y9:Nat):Bool:=
 match m.find id with
 |some a=>decide (8<=((m.ax.modify Y9 λk=>{k with fate:=3}).foldl ya a).aq)
 |none=>false
def fU(t p:cH):Prop:=(t.bI≠0/\t.bI≠p.bI)\/(t.aU≠0/\t.aU≠p.aU)\/(t.bJ≠0/\t.bJ≠p.bJ)\/(t.code≠0/\t.code≠p.code)
instance(t p:cH):Decidable (fU t p):=by unfold fU;infer_instance
def dD(t p:cH):Nat:=if t.a8=0 then p.a8 else t.a8
def my(t p:cH):Prop:=(has t.aq 4/\p.a8<dD t p)\/(¬has t.aq 4/\dD t p≠p.a8)
instance(t p:cH):Decidable (my t p):=by unfold my;infer_instance
def oC(t:cH)(named pend:Option cr)(Y0 Y7:Bool)(many:Nat):Int:=
 if nL t≠0 then nL t else if ¬jZ t.aq then 6 else match named with
 |some k=>tK t k.asked
 |none=>match pend with
  |none=>23
  |some k=>
   if ¬has k.move.aq 2 then 24 else if fU t k.move then 25 else if 1<k.fate then 25+k.fate else if my t k.move then 26
   else if has t.aq 4/\Y0=true then 30 else if has t.aq 4/\Y7=true then 31 else if 96<=many then 35 else 0
def dP(t:cH):Int:=if has t.aq 4 then 2 else 3
def ny(t p:cH):cH:={t with bI:=p.bI,aU:=p.aU,a8:=dD t p,bJ:=p.bJ,code:=p.code}
def aA.fa(m:aA)(i:Nat)(fate:Int):aA:={m with ax:=m.ax.modify i λk=>{k with fate:=fate}}
def aA.pE(m:aA)(t:cH):Int×aA:=
 match m.name t.pending with
 |none=>(oC t (m.named t.id) none false false m.ax.length,m)
 |some i=>match m.ax[i]? with
  |none=>(oC t (m.named t.id) none false false m.ax.length,m)
  |some k=>
   let r:=oC t (m.named t.id) (some k) (m.closed k.move.bI i) (m.closed k.move.aU i) m.ax.length
   if r≠0 then(r,m) else(0,(m.fa i (dP t)).mw t (ny t k.move) 0)
def nH(clock:Int)(k:cr):Prop:=k.fate=1/\0<k.move.cB/\k.move.iE+k.move.cB<=clock
instance(clock:Int)(k:cr):Decidable (nH clock k):=by unfold nH;infer_instance
def aA.time(m:aA)(now:Int):aA:=
 let clock:=if m.clock<now/\now<=1099511627776 then now else m.clock
 {m with clock:=clock,ax:=m.ax.map λk=>if nH clock k then{k with fate:=4} else k}
def aA.rI(m:aA)(t:cH):Int×aA:=if nL t=0/\jZ t.aq then m.pE t else m.move t
def ba.find(b:ba)(id:Nat):Option bP:=b.aC.find? λa=>a.id=id
def ba.bu(b:ba)(a:bP):ba:={b with aC:=b.aC.map λx=>if x.id=a.id then{a with ay:=x.ay} else x}
def ba.mw(b:ba)(asked t:cH)(fate:Int):ba:=
 {b with ay:=b.ay+1,ax:=b.ax++[⟨asked,{t with ay:=b.ay+1,iE:=b.clock},fate⟩]}
def ba.fate(b:ba)(id:Nat)(fate:Int):ba:={b with ax:=b.ax.map λk=>if k.move.id=id/\k.fate=1 then{k with fate:=fate} else k}
def ba.make(b:ba)(a:bP):Int×ba:=
 if uM a≠0 then(uM a,b) else match b.find a.id with
 |some x=>(uN a x,b)
 |none=>if 32<=b.aC.length then(35,b) else(0,{b with ay:=b.ay+1,aC:=b.aC++[{a with ay:=b.ay+1,aq:=a.aq/2* 2}]})
def close(a:bP)(yes:Prop)[Decidable yes]:bP:=if yes then{a with aq:=a.aq%8+8} else a
def open_(a:bP)(yes:Prop)[Decidable yes]:bP:=if yes then{a with aq:=a.aq%8} else a
def ba.named(b:ba)(id:Nat):Option cr:=b.ax.find? λk=>k.move.id=id
def ba.DN(b:ba)(t:cH)(n:Nat):ba:=
 match b.find t.bI,b.find t.aU with
 |some d,some c=>((b.bu (close (more d true n (decide (has t.aq 2))).1 (has t.aq 64))).bu (close (more c false n (decide (has t.aq 2))).1 (has t.aq 128))).mw t {t with a8:=n} (waits t)
 |_,_=>b
def ba.move(b:ba)(t:cH):Int×ba:=
 let r:=jI t (b.named t.id) (b.find t.bI) (b.find t.aU) b.ax.length
 if r.1≠0 then(r.1,b) else(0,b.DN t r.2)
def AX(d:bP)(p:cH)(n:Nat)(fate:Int):bP:=if fate=2 then{d with dp:=d.dp-p.a8,dq:=d.dq+n} else open_ {d with dp:=d.dp-p.a8} (has p.aq 64)
def BW(c:bP)(p:cH)(n:Nat)(fate:Int):bP:=if fate=2 then{c with cp:=c.cp-p.a8,cq:=c.cq+n} else open_ {c with cp:=c.cp-p.a8} (has p.aq 128)
def ba.release(b:ba)(p:cH)(n:Nat)(fate:Int):ba:=
 match b.find p.bI,b.find p.aU with
 |some d,some c=>((b.bu (AX d p n fate)).bu (BW c p n fate)).fate p.id fate
 |_,_=>b
def ba.mZ(b:ba)(id:Nat)(by_:Prop)[Decidable by_]:Bool:=match b.find id with|some d=>decide (8<=d.aq/\ ¬by_)|none=>false
def ba.pE(b:ba)(t:cH):Int×ba:=
 match b.named t.pending with
 |none=>(oC t (b.named t.id) none false false b.ax.length,b)
 |some k=>
  let r:=oC t (b.named t.id) (some k) (b.mZ k.move.bI (has k.move.aq 64)) (b.mZ k.move.aU (has k.move.aq 128)) b.ax.length
  if r≠0 then(r,b) else(0,(b.release k.move (dD t k.move) (dP t)).mw t (ny t k.move) 0)
def ba.rI(b:ba)(t:cH):Int×ba:=if nL t=0/\jZ t.aq then b.pE t else b.move t
end Go.Md
namespace Go.Up
open Go.Sep Go.Den Go.RowKit Go.Prog Go.Md
section
variable {W:World} {L:LH} {K:VK} {a:bP} {n m:Nat} {p:Bool}
def aaS{a b:Nat}:(if a+b<bO then a+b else bO-1)<bO:=by unfold bO;split<;>omega
def Pn(G:oH W)(hn:n<bO)(hm:m<bO)(h:T W L (K (.agg ⟨nm (if n+m<bO then n+m else bO-1)⟩))):T W L (ji (nm n) (nm m) K):=by
 unfold ji
 repeat' first|apply ws;intros|apply wb|first|refine Ef hn hm ?_|refine Pr ⟨zx _,G.XY⟩ ?_|apply dz<;>intro h1
 all_goals (apply T.fin (T.dp h);try simp only[bz] at *)
 ·rw[ag (by omega)]
 ·rw[ai h1,ai h1]
def KO(G:oH W)(ha:yJ a)(h:T W L (K (.agg ⟨nm (ja a p)⟩))):T W L (dO (aO a) p K):=by
 obtain⟨-,d1,d2,c1,c2,-,-,-,-⟩:=ha;unfold dO;have k1:∀x y z:Nat,x<bO->y<bO->z<bO->(if x<(if y+z<bO then y+z else bO-1) then 0 else x-(if y+z<bO then y+z else bO-1))=x-(y+z):=λx y z hx hy hz=>by
  by_cases hh:y+z<bO
  ·rw[ai hh];split<;>omega
  ·rw[ag hh];split<;>omega
 have e1:p=true->ja a p=a.cq-(a.dp+a.dq):=λe=>by rw[e];rfl
 have e2:p=false->ja a p=a.dq-(a.cp+a.cq):=λe=>by rw[e];rfl
 repeat' first|apply ws;intros|apply wb|first|refine Pn G d1 d2 ?_|refine Pn G c1 c2 ?_|apply dz<;>intro h1
 all_goals simp only[dO.j1,dO.j2,dO.j3,dO.j4,dO.j5,dO.j6]
 all_goals repeat' first|apply ws;intros|apply wb|refine V6 (by assumption) aaS ?_
 all_goals (refine T.fin (T.dp h) ?_;first|rw[e1 (by assumption),k1 _ _ _ (by assumption) (by assumption) (by assumption)]|rw[e2 (by assumption),k1 _ _ _ (by assumption) (by assumption) (by assumption)])
def GG(ha:yJ a):ja a p<bO:=by
 have:=ha.dq;have:=ha.cq;unfold ja;split<;>omega
def TR(x y z:Nat):DE 0 [x,y,z]=if x+y+z<bO then some (x+y+z) else none:=by
 simp only[DE,aB]
 repeat' split
 all_goals first|rfl|omega
def Zs(G:oH W)(ha:yJ a)(hn:n<bO)(hf:0<=a.aq/\a.aq<256)(h:T W L (K (.tuple ⟨[.agg ⟨aO (more a true n p).1⟩,.i (more a true n p).2]⟩))):T W L (oe (aO a) (nm n) p K):=by
 unfold oe;apply ws;intros;rename_i r4;refine aaq (l:=[a.dp,a.dq,n]) (by simp;exact⟨ha.dp,ha.dq,hn⟩) (by show 3<1000;decide) ?_;rw[TR];apply ws;intros;unfold more at h;apply dz<;>intro h1
 ·have hh: ¬a.dp+a.dq+n<bO:=λhh=>by rw[ai hh] at h1;cases h1
  rw[ai rfl,ai (by omega)] at h;apply ws;exact T.dp h
 have hh:a.dp+a.dq+n<bO:=by
  by_cases hh:a.dp+a.dq+n<bO
  ·exact hh
  ·rw[ag hh] at h1;cases h1
 rw[ai rfl,ag (by omega)] at h;have j1:∀r5 r4 r3 r2 r1:Nat,∀c4 c5:LV,T W (Sep.pt r5 c5::Sep.pt r4 c4::Sep.pt r3 (aO zA)::Sep.pt r2 (nm n)::Sep.pt r1 (aO a)::L) (oe.j1 K r1 r3 p r2 (decide (has a.aq 2/\ja a true<n))):=λr5 r4 r3 r2 r1 c4 c5=>by
  unfold oe.j1;apply ga<;>intro h1
  ·rw[ai (h1)] at h;apply ws;exact T.dp h
  rw[ag (h1)] at h;apply dz<;>intro h1
  ·rw[ai h1] at h;have hx:a.dp+n<bO:=by omega
   repeat' first|apply ws|apply wb|refine Ef ha.dp hn ?_
   rw[ai hx];exact T.dp h
  ·rw[ag (by rw[h1];decide)] at h;have hx:a.dq+n<bO:=by omega
   repeat' first|apply ws|apply wb|refine Ef ha.dq hn ?_
   rw[ai hx];exact T.dp h
 apply ws;apply dz<;>intro h1
 ·have h2:has a.aq 2:=by
   have:=fM.1 h1;rw[ne_eq,MZ hf.1 hf.2,bp] at this;exact this
  repeat' first|apply ws|apply wb|first|refine KO G ha ?_|refine Du ?_
  have e:decide (ja a true<n)=decide (has a.aq 2/\ja a true<n):=by simp[h2]
  rw[e];exact j1 _ _ _ _ _ _ _
 ·have h2: ¬has a.aq 2:=(MZ hf.1 hf.2).1 (bne_eq_false_iff_eq.1 h1);have e:false=decide (has a.aq 2/\ja a true<n):=by simp[h2]
  rw[e];exact j1 _ _ _ _ _ _ _
def Wq(G:oH W)(ha:yJ a)(hn:n<bO)(hf:0<=a.aq/\a.aq<256)(h:T W L (K (.tuple ⟨[.agg ⟨aO (more a false n p).1⟩,.i (more a false n p).2]⟩))):T W L (mQ (aO a) (nm n) p K):=by
 unfold mQ;apply ws;intros;rename_i r4;refine aaq (l:=[a.cp,a.cq,n]) (by simp;exact⟨ha.cp,ha.cq,hn⟩) (by show 3<1000;decide) ?_;rw[TR];apply ws;intros;unfold more at h;apply dz<;>intro h1
 ·have hh: ¬a.cp+a.cq+n<bO:=λhh=>by rw[ai hh] at h1;cases h1
  rw[ag (by decide),ai (by omega)] at h;apply ws;exact T.dp h
 have hh:a.cp+a.cq+n<bO:=by
  by_cases hh:a.cp+a.cq+n<bO
  ·exact hh
  ·rw[ag hh] at h1;cases h1
 rw[ag (by decide),ag (by omega)] at h;have j1:∀r5 r4 r3 r2 r1:Nat,∀c4 c5:LV,T W (Sep.pt r5 c5::Sep.pt r4 c4::Sep.pt r3 (aO zA)::Sep.pt r2 (nm n)::Sep.pt r1 (aO a)::L) (mQ.j1 K r1 r3 p r2 (decide (has a.aq 4/\ja a false<n))):=λr5 r4 r3 r2 r1 c4 c5=>by
  unfold mQ.j1;apply ga<;>intro h1
  ·rw[ai (h1)] at h;apply ws;exact T.dp h
  rw[ag (h1)] at h;apply dz<;>intro h1
  ·rw[ai h1] at h;have hx:a.cp+n<bO:=by omega
   repeat' first|apply ws|apply wb|refine Ef ha.cp hn ?_
   rw[ai hx];exact T.dp h
  ·rw[ag (by rw[h1];decide)] at h;have hx:a.cq+n<bO:=by omega
   repeat' first|apply ws|apply wb|refine Ef ha.cq hn ?_
   rw[ai hx];exact T.dp h
 apply ws;apply dz<;>intro h1
 ·have h2:has a.aq 4:=by
   have:=fM.1 h1;rw[ne_eq,MY hf.1 hf.2,bp] at this;exact this
  repeat' first|apply ws|apply wb|first|refine KO G ha ?_|refine Du ?_
  have e:decide (ja a false<n)=decide (has a.aq 4/\ja a false<n):=by simp[h2]
  rw[e];exact j1 _ _ _ _ _ _ _
 ·have h2: ¬has a.aq 4:=(MY hf.1 hf.2).1 (bne_eq_false_iff_eq.1 h1);have e:false=decide (has a.aq 4/\ja a false<n):=by simp[h2]
  rw[e];exact j1 _ _ _ _ _ _ _
end
end Go.Up
namespace Go.Up
open Go.Sep Go.Den Go.RowKit Go.Prog Go.Md Go.cG
section
variable {W:World} {L:LH} {K:VK} {X:WK} {α:Type} {r n c e o j:Nat} {l:List α} {x y:α} {g:α->LV} {f:HP->LH}
def gI{K:LV->WK}[i:wX (ah r) n c L e (l.flatMap g) f](hf:∀x,(g x).length=e)(hx:l[o]?=some x)(h:T W L (K (g x))):T W L (aJ ⟨r,o* e,none⟩ e K):=λw hs=>by
 obtain⟨k,hk,_⟩:=i.at_;exact EW hs hk (hf x) (ry hf l o x hx) (h w hs)
def FA{v:Value}[i:wX (ah r) n c L e (l.flatMap g) f](hf:∀x,(g x).length=e)(hx:l[o]?=some x)(hv:(g x)[j]?=some v)(h:T W L (K v)):T W L (ld ⟨r,o* e+j,none⟩ K):=λw hs=>by
 obtain⟨k,hk,_⟩:=i.at_;exact A3 hs hk (ry hf l o x hx j v hv) (h w hs)
def FB{v:Value}[i:wX (ah r) n c L e (l.flatMap g) f](hf:∀x,(g x).length=e)(hx:l[o]?=some x)(hv:(g x)[0]?=some v)(h:T W L (K v)):T W L (ld ⟨r,o* e,none⟩ K):=FA (j:=0) hf hx hv h
def Kh(hf:∀x,(g x).length=e)(ho:o<l.length):o* e+e<=(l.flatMap g).length:=by
 rw[Cm hf,<-Nat.succ_mul];exact iA e ho
def rN[i:wX (ah r) n c L e (l.flatMap g) f](hf:∀x,(g x).length=e)(ho:o<l.length)(h1:∀v∈g x,v.oneCell'=true)
 (h:T W (f (own (ah r) n c e ((l.set o x).flatMap g))) X):T W L (jY ⟨r,o* e,none⟩ (g x) X):=λw hs=>by
 obtain⟨k,hk,e1⟩:=i.at_;refine Xi hs hk (by rw[hf];exact Kh hf ho) h1 λw' h'=>h w' ?_;rw[e1,<-GL hf l o x ho];exact h'
def Dc{v:Value}(hf:∀x,(g x).length=e)(hx:l[o]?=some x)(hy:g y=(g x).set j v)(hj:j<e):(l.flatMap g).set (o* e+j) v=(l.set o y).flatMap g:=by
 have ho:=(ar.1 hx).1;have hle:=Kh hf ho;rw[<-GL hf l o y ho];apply qX;intro i;rw[B2 (by rw[hf];exact hle),dk];by_cases h1:i<o* e
 ·rw[ai h1,ag (by omega)]
 ·rw[ag h1];by_cases h2:i<o* e+(g y).length
  ·rw[ai h2,hy,dk];rw[hf] at h2;obtain⟨m,rfl⟩:∃m,i=o* e+m:=⟨i-o* e,by omega⟩;rw[Nat.add_sub_cancel_left];by_cases h3:j=m
   ·subst h3;rw[ai rfl,ai rfl,ai (by omega),ai (by rw[hf];omega)]
   ·rw[ag (by omega),ag h3];have hm:m<(g x).length:=by rw[hf];omega
    rw[aj hm];exact ry hf l o x hx m _ (aj hm)
  ·rw[ag h2,ag (by rw[hf] at h2;omega)]
def Fw{v:Value}[i:wX (ah r) n c L e (l.flatMap g) f](hf:∀x,(g x).length=e)(hx:l[o]?=some x)(hy:g y=(g x).set j v)(hj:j<e)(h1:v.oneCell'=true)
 (h:T W (f (own (ah r) n c e ((l.set o y).flatMap g))) X):T W L (st ⟨r,o* e+j,none⟩ v X):=λw hs=>by
 obtain⟨k,hk,e1⟩:=i.at_;have ho:=(ar.1 hx).1;have hle:=Kh (g:=g) hf ho;refine CO hs hk (by omega) h1 λw' h'=>h w' ?_;rw[e1,<-Dc hf hx hy hj];exact h'
def JF{bytes:Nat}{zero:LV}{len cap:Int}{K:OA->Nat->Nat->WK}(h0:0<=len/\len<=cap/\cap<=9223372036854775807/\cap* bytes<=281474976710656)
 (hK:∀r,T W (own (ah r) len.toNat cap.toNat zero.length (Builtin.zeroCells ⟨zero⟩ len.toNat).toList::L) (K (ah r) len.toNat cap.toNat)):T W L (L3 bytes zero len cap K):=λw hs=>
 UB hs h0 λr w' h'=>hK r w' h'
def sn{z:α}{zs:LV}(hz:g z=zs)(m:Nat):(Builtin.zeroCells ⟨zs⟩ m).toList=(bw m z).flatMap g:=by
 subst hz
 induction m with
 |zero=>simp[Builtin.zeroCells]
 |succ m ih=>
  rw[List.replicate_succ',gj,<-ih];simp only[Builtin.zeroCells,Array.toList_map,Array.toList_range,iQ,List.flatMap_nil,bR];rw[mG,Nat.one_mul,List.range_add,cF,sY]
  congr 1
  show(qk (g z).length).map _=g z;apply qX;intro j;rw[fy];by_cases hj:j<(g z).length
  ·rw[rL hj,aj hj];show some _=some _
   congr 1
   simp only[Function.comp];show(⟨g z⟩:Array Value)[(m* (g z).length+j)%(g z).length]! =_;rw[wI,Nat.mul_add_mod,fG hj];simp[hj]
  ·rw[qu (by simpa using hj),qu (by omega)];rfl
end
structure Cell where
 key:Nat
 at_:Int
 kind:Int
def oD(c:Cell):LV:=nm c.key++[.i c.at_,.int .u8 c.kind]
def tI(c:Cell):(oD c).length=4:=rfl
instance{c:Cell}:Ln (oD c) 4:=⟨rfl⟩
instance{c:Cell}:Gt (oD c) 3 (.int .u8 c.kind):=⟨rfl⟩
def Ap(c:Cell):∀v∈oD c,v.oneCell'=true:=pC (oV _) λv h=>by simp at h;rcases h with rfl|rfl<;>rfl
def PA(n1 n2:Int):Int:=IntKind.u64.wrap ((dj .u64 .xor (dj .u64 .xor n1 (shl .u64 n2 31)) (shr .u64 n2 33))* 11400714819323198485)
def Pz(x:Int):Int:=dj .u64 .xor x (shr .u64 x 29)
def spread(k:Nat):Int:=Pz (PA ((k%18446744073709551616:Nat):Int) ((k/18446744073709551616:Nat):Int))
def Pow(N:Nat):Prop:=∃j,3<=j/\j<=20/\N=2^j
def Pow.ge{N:Nat}(h:Pow N):8<=N:=by
 obtain⟨j,h1,h2,rfl⟩:=h;exact gO (by decide) h1 (n:=2)
def Pow.le{N:Nat}(h:Pow N):N<=1048576:=by
 obtain⟨j,h1,h2,rfl⟩:=h;exact gO (by decide) h2 (n:=2)
def M5{N x:Nat}(h:Pow N)(hx:x<18446744073709551616):dj .u64 .and (x:Int) ((N:Int) -1)=((x%N:Nat):Int):=by
 have h1:=h.ge;have h2:=h.le;obtain⟨j,-,-,rfl⟩:=h;have e:((2^j:Nat):Int) -1=((2^j-1:Nat):Int):=by omega
 rw[e];unfold dj;show IntKind.u64.wrap (((BitVec.ofInt 64 (x:Int)&&&BitVec.ofInt 64 ((2^j-1:Nat):Int)).toNat:Nat):Int)=_;rw[BitVec.toNat_and];have t1:(BitVec.ofInt 64 (x:Int)).toNat=x:=by simp only[BitVec.toNat_ofInt];omega
 have t2:(BitVec.ofInt 64 ((2^j-1:Nat):Int)).toNat=2^j-1:=by simp only[BitVec.toNat_ofInt];omega
 rw[t1,t2,Nat.and_two_pow_sub_one_eq_mod];have:x%2^j<=x:=Nat.mod_le _ _;exact te (by omega)
def UI(op:BinOp)(x y:Int)(h:op=.and\/op=.or\/op=.xor\/op=.andNot):0<=dj .u64 op x y/\dj .u64 op x y<18446744073709551616:=by
 rcases h with h|h|h|h<;>subst h<;>(unfold dj;dsimp only;simp only[IntKind.wrap,IntKind.bits,IntKind.signed];simp;omega)
def hh(N k:Nat):Nat:=(spread k).toNat%N
def adD{N:Nat}(h:0<N)(k:Nat):hh N k<N:=Nat.mod_lt _ h
def NU(k:Nat):0<=spread k/\spread k<18446744073709551616:=by
 unfold spread;generalize PA _ _=x;unfold Pz;generalize shr .u64 x 29=y;exact UI .xor x y (by simp)
def NV{N k:Nat}(h:Pow N):dj .u64 .and (spread k) ((N:Int) -1)=((hh N k:Nat):Int):=by
 obtain⟨h1,h2⟩:=NU k;unfold hh;generalize spread k=x at h1 h2;obtain⟨n,rfl⟩:∃n:Nat,x=n:=⟨x.toNat,by omega⟩;rw[ak];exact M5 h (by omega)
def NF(cs:List Cell)(i:Nat):Prop:=∃c:Cell,cs[i]?=some c/\c.kind≠0
structure TI(cs:List Cell)(m:Nat->Option Int)(u lf:Nat):Prop where
 pow:Pow cs.length
 kinds:∀c∈cs,c.kind=0\/c.kind=1\/c.kind=2
 used:cs.countP (λc:Cell=>c.kind=1)=u
 left:cs.countP (λc:Cell=>c.kind=2)=lf
 room:4* (u+lf)<=3* cs.length
 run:∀(i:Nat)(c:Cell),cs[i]?=some c->c.kind=1->∃d,d<cs.length/\i=(hh cs.length c.key+d)%cs.length/\∀j,j<d->NF cs ((hh cs.length c.key+j)%cs.length)
 is:∀(i:Nat)(c:Cell),cs[i]?=some c->c.kind=1->m c.key=some c.at_
 has:∀k v,m k=some v->∃(i:Nat)(c:Cell),cs[i]?=some c/\c.kind=1/\c.key=k
 one:∀(i j:Nat)(c d:Cell),cs[i]?=some c->cs[j]?=some d->c.kind=1->d.kind=1->c.key=d.key->i=j
def Vz:∀(cs:List Cell),(∀c∈cs,c.kind=0\/c.kind=1\/c.kind=2)->cs.countP (λc:Cell=>c.kind=0)+cs.countP (λc:Cell=>c.kind=1)+cs.countP (λc:Cell=>c.kind=2)=cs.length
 |[],_=>rfl
 |c::cs,h=>by
  have ih:=Vz cs λd hd=>h d (by simp[hd]);simp only[List.countP_cons,bE];rcases h c (by simp) with e|e|e<;>simp[e]<;>omega
def countP_set{p:Cell->Bool}:∀(cs:List Cell)(i:Nat)(c x:Cell),cs[i]?=some c->(cs.set i x).countP p+(if p c then 1 else 0)=cs.countP p+(if p x then 1 else 0)
 |[],i,c,x,h=>by simp at h
 |d::cs,0,c,x,h=>by
  simp at h;subst h;simp only[List.set_cons_zero,List.countP_cons];omega
 |d::cs,i+1,c,x,h=>by
  have ih:=countP_set (p:=p) cs i c x (by simpa using h);simp only[nN,List.countP_cons];omega
def TI.free{cs:List Cell}{m:Nat->Option Int}{u lf:Nat}(h:TI cs m u lf)(s:Nat)(ha:∀j,j<cs.length->NF cs ((s+j)%cs.length)):False:=by
 have h8:=h.pow.ge;have hc:=Vz cs h.kinds;rw[h.used,h.left] at hc;have h0:0<cs.countP (λc:Cell=>c.kind=0):=by have:=h.room;omega
 rw[List.countP_pos_iff] at h0;obtain⟨c,hm,hk⟩:=h0;obtain⟨i,hi⟩:=qW hm;have cn:=(ar.1 hi).1;have e:(s+(i+cs.length-s%cs.length)%cs.length)%cs.length=i:=by
  have h1:s%cs.length<cs.length:=Nat.mod_lt _ (by omega);rw[Nat.add_mod_mod,Nat.add_mod,];have:s+(i+cs.length-s%cs.length)=cs.length* (s/cs.length+1)+i:=by
   have:=Nat.div_add_mod s cs.length;rw[Nat.mul_add];omega
  rw[<-Nat.add_mod,this,Nat.mul_add_mod,fG cn]
 obtain⟨d,hd,hn⟩:=ha ((i+cs.length-s%cs.length)%cs.length) (Nat.mod_lt _ (by omega));rw[e,hi] at hd;cases hd
 simp at hk;exact hn hk
structure FR(cs:List Cell)(k p:Nat):Prop where
 place:∃(c:Cell)(d:Nat),cs[p]?=some c/\c.kind≠1/\d<cs.length/\p=(hh cs.length k+d)%cs.length/\∀j,j<d->NF cs ((hh cs.length k+j)%cs.length)
 none_:∀(i:Nat)(c:Cell),cs[i]?=some c->c.kind=1->c.key≠k
def xK(m:Nat->Option Int)(k:Nat)(v:Option Int):Nat->Option Int:=λj=>if j=k then v else m j
def NF.set{cs:List Cell}{i p:Nat}{x:Cell}(h:NF cs i)(hx:x.kind≠0):NF (cs.set p x) i:=by
 obtain⟨c,hc,hk⟩:=h;have cn:=(ar.1 hc).1;unfold NF;rw[dk];by_cases e:p=i
 ·rw[ai e,ai (by omega)];exact⟨x,rfl,hx⟩
 ·rw[ag e];exact⟨c,hc,hk⟩
def TI.Dq{cs:List Cell}{m:Nat->Option Int}{u lf k:Nat}(h:TI cs m u lf)(hn:∀(i:Nat)(c:Cell),cs[i]?=some c->c.kind=1->c.key≠k):m k=none:=by
 cases hm:m k with
 |none=>rfl
 |some v=>
  obtain⟨i,c,h1,h2,h3⟩:=h.has k v hm;exact aT h3 (hn i c h1 h2)
def wq{cs:List Cell}{p i:Nat}{x c:Cell}(h:(cs.set p x)[i]?=some c):(i=p/\c=x/\p<cs.length)\/(i≠p/\cs[i]?=some c):=by
 rw[dk] at h;by_cases e:p=i
 ·rw[ai e] at h;by_cases hl:p<cs.length
  ·rw[ai (by omega)] at h;cases h;exact .inl ⟨e.symm,rfl,hl⟩
  ·rw[ag (by omega)] at h;cases h
 ·rw[ag e] at h;exact .inr ⟨λh=>e h.symm,h⟩
def TI.put{cs:List Cell}{m:Nat->Option Int}{u lf k p:Nat}{v:Int}{c:Cell}(h:TI cs m u lf)(f:FR cs k p)(hp:cs[p]?=some c)(hr:4* (u+lf+1)<=3* cs.length):
 TI (cs.set p ⟨k,v,1⟩) (xK m k (some v)) (u+1) (if c.kind=2 then lf-1 else lf):=by
 obtain⟨⟨c',d,Mu,hk,hd,hpd,hj⟩,pq⟩:=f;rw[hp] at Mu;cases Mu
 have cn:=(ar.1 hp).1;have hl:(cs.set p ⟨k,v,1⟩).length=cs.length:=je;have c1:=countP_set (p:=λc:Cell=>c.kind=1) cs p c ⟨k,v,1⟩ hp;have c2:=countP_set (p:=λc:Cell=>c.kind=2) cs p c ⟨k,v,1⟩ hp;have pU:c∈cs:=cD hp;have hnk:=h.Dq pq;rw[h.used] at c1;rw[h.left] at c2;refine⟨by rw[hl];exact h.pow,?_,?_,?_,?_,?_,?_,?_,?_⟩
 ·intro x hx;rcases fq hx with hx|hx
  ·exact h.kinds x hx
  ·subst hx;exact .inr (.inl rfl)
 ·simp[hk] at c1;simpa using c1
 ·by_cases e:c.kind=2
  ·rw[ai e];simp[e] at c2;simpa using by omega
  ·rw[ag e];simp[e] at c2;simpa using c2
 ·rw[hl];split<;>omega
 ·rw[hl];intro i x hi hx;rcases wq hi with⟨rfl,rfl,_⟩|⟨kJ,hi⟩
  ·exact⟨d,hd,hpd,λj h1=>(hj j h1).set (show(1:Int)≠0 by decide)⟩
  ·obtain⟨d',h1,h2,h3⟩:=h.run i x hi hx;exact⟨d',h1,h2,λj h4=>(h3 j h4).set (show(1:Int)≠0 by decide)⟩
 ·intro i x hi hx;rcases wq hi with⟨rfl,rfl,_⟩|⟨kJ,hi⟩
  ·simp[xK]
  ·unfold xK;rw[ag (pq i x hi hx)];exact h.is i x hi hx
 ·intro k' v' Bt;unfold xK at Bt;by_cases e:k'=k
  ·subst e;exact⟨p,⟨k',v,1⟩,by rw[dk,ai rfl,ai cn],rfl,rfl⟩
  ·rw[ag e] at Bt;obtain⟨i,x,h1,h2,h3⟩:=h.has k' v' Bt;refine⟨i,x,?_,h2,h3⟩;rw[dk,ag]
   ·exact h1
   ·intro e2;subst e2;rw[hp] at h1;cases h1;exact hk h2
 ·intro i j x y hi Nq hx hy he;rcases wq hi with⟨rfl,rfl,_⟩|⟨kJ,hi⟩<;>rcases wq Nq with⟨rfl,rfl,_⟩|⟨afi,Nq⟩
  ·rfl
  ·exact aT he.symm (pq j y Nq hy)
  ·exact aT he (pq i x (by assumption) hx)
  ·exact h.one i j x y (by assumption) (by assumption) hx hy he
def TI.drop{cs:List Cell}{m:Nat->Option Int}{u lf p:Nat}{c:Cell}(h:TI cs m u lf)(hp:cs[p]?=some c)(hk:c.kind=1):
 TI (cs.set p ⟨0,0,2⟩) (xK m c.key none) (u-1) (lf+1)/\1<=u:=by
 have cn:=(ar.1 hp).1;have hl:(cs.set p ⟨0,0,2⟩).length=cs.length:=je;have c1:=countP_set (p:=λc:Cell=>c.kind=1) cs p c ⟨0,0,2⟩ hp;have c2:=countP_set (p:=λc:Cell=>c.kind=2) cs p c ⟨0,0,2⟩ hp;rw[h.used] at c1;rw[h.left] at c2;have hu:1<=u:=by simp[hk] at c1;omega
 refine⟨⟨by rw[hl];exact h.pow,?_,?_,?_,by rw[hl];have:=h.room;omega,?_,?_,?_,?_⟩,hu⟩
 ·intro x hx;rcases fq hx with hx|hx
  ·exact h.kinds x hx
  ·subst hx;exact .inr (.inr rfl)
 ·simp[hk] at c1;simpa using by omega
 ·simp[hk] at c2;simpa using c2
 ·rw[hl];intro i x hi hx;rcases wq hi with⟨rfl,rfl,_⟩|⟨kJ,hi⟩
  ·exact aT hx (by decide)
  ·obtain⟨d',h1,h2,h3⟩:=h.run i x hi hx;exact⟨d',h1,h2,λj h4=>(h3 j h4).set (by decide)⟩
 ·intro i x hi hx;rcases wq hi with⟨rfl,rfl,_⟩|⟨kJ,hi⟩
  ·exact aT hx (by decide)
  ·have:x.key≠c.key:=λe=>kJ (h.one i p x c hi hp hx hk e);unfold xK;rw[ag this];exact h.is i x hi hx
 ·intro k' v' Bt;unfold xK at Bt;by_cases e:k'=c.key
  ·rw[ai e] at Bt;cases Bt
  ·rw[ag e] at Bt;obtain⟨i,x,h1,h2,h3⟩:=h.has k' v' Bt;refine⟨i,x,?_,h2,h3⟩;rw[dk,ag]
   ·exact h1
   ·intro e2;subst e2;rw[hp] at h1;cases h1;exact e h3.symm
 ·intro i j x y hi Nq hx hy he;rcases wq hi with⟨rfl,rfl,_⟩|⟨kJ,hi⟩<;>rcases wq Nq with⟨rfl,rfl,_⟩|⟨afi,Nq⟩
  ·rfl
  ·exact aT hx (by decide)
  ·exact aT hy (by decide)
  ·exact h.one i j x y (by assumption) (by assumption) hx hy he
def TI.new{N:Nat}(h:Pow N):TI (bw N ⟨0,0,0⟩) (λ_=>none) 0 0:=by
 refine⟨by rw[kV];exact h,?_,?_,?_,by omega,?_,?_,?_,?_⟩
 ·intro c hc;rw[List.eq_of_mem_replicate hc];exact .inl rfl
 ·rw[List.countP_replicate];rfl
 ·rw[List.countP_replicate];rfl
 ·intro i c hi hk;have:=List.eq_of_mem_replicate (cD hi);subst this;exact aT hk (by decide)
 ·intro i c hi hk;have:=List.eq_of_mem_replicate (cD hi);subst this;exact aT hk (by decide)
 ·intro k v hk;cases hk
 ·intro i j c d hi hj hk;have:=List.eq_of_mem_replicate (cD hi);subst this;exact aT hk (by decide)
def Seen(cs:List Cell)(k d:Nat):Prop:=∀j,j<d->∃c:Cell,cs[(hh cs.length k+j)%cs.length]?=some c/\c.kind≠0/\ ¬(c.kind=1/\c.key=k)
def Seen.nf{cs:List Cell}{k d:Nat}(h:Seen cs k d):∀j,j<d->NF cs ((hh cs.length k+j)%cs.length):=λj hj=>by
 obtain⟨c,h1,h2,_⟩:=h j hj;exact⟨c,h1,h2⟩
def Seen.succ{cs:List Cell}{k d:Nat}{c:Cell}(h:Seen cs k d)(hc:cs[(hh cs.length k+d)%cs.length]?=some c)(h0:c.kind≠0)(h1: ¬(c.kind=1/\c.key=k)):Seen cs k (d+1):=λj hj=>by
 by_cases e:j=d
 ·subst e;exact⟨c,hc,h0,h1⟩
 ·exact h j (by omega)
def Seen.Dq{cs:List Cell}{m:Nat->Option Int}{u lf k d:Nat}{c:Cell}(ht:TI cs m u lf)(h:Seen cs k d)(hd:d<cs.length)(hc:cs[(hh cs.length k+d)%cs.length]?=some c)(h0:c.kind=0):
 ∀(i:Nat)(c:Cell),cs[i]?=some c->c.kind=1->c.key≠k:=by
 intro i x hi hx he;obtain⟨d',h1,h2,h3⟩:=ht.run i x hi hx;rw[he] at h2 h3;by_cases e1:d'<d
 ·obtain⟨y,g1,g2,g3⟩:=h d' e1;rw[<-h2,hi] at g1;cases g1;exact g3 ⟨hx,he⟩
 ·by_cases e2:d<d'
  ·obtain⟨y,g1,g2⟩:=h3 d e2;rw[hc] at g1;cases g1;exact g2 h0
  ·have:d=d':=by omega
   subst this;rw[<-h2,hi] at hc;cases hc;rw[h0] at hx;cases hx
section
variable {y z:Cell} {x1 x2 x3 x4:Value}
instance:Wr [x1,x2,x3,x4] 0 (oD y) (oD y):=⟨rfl,aI _,Ap y⟩
instance:Sub (oD y) 0 2 (nm y.key):=⟨zh rfl rfl⟩
instance:Sub (oD y) 0 4 (oD y):=⟨rfl,λj v h=>by rw[aB];exact h⟩
end
def pL(t:Nat)(x:(Nat->Option Int)×Nat):HP:=
 S8 λq:OA×Nat×List Cell×Nat=>G9 (TI q.2.2.1 x.1 x.2 q.2.2.2) (sep (Sep.pt t [.l q.1 q.2.2.1.length q.2.1,.i (x.2:Int),.i (q.2.2.2:Int)]) (own q.1 q.2.2.1.length q.2.1 4 (q.2.2.1.flatMap oD)))
section
variable {W:World} {L:LH} {K:VK} {X:WK} {t:Nat} {x:(Nat->Option Int)×Nat} {f:(Nat->Option Int)×Nat->LH}
def Ty[i:Lc (pL t) L x f](h:∀b c cs lf R,TI cs x.1 x.2 lf->(∀b' c' xd u' Nj m' Y,TI xd m' u' Nj->T W (f (m',u')) Y->T W (Sep.pt t [.l b' xd.length c',.i (u':Int),.i (Nj:Int)]::own b' xd.length c' 4 (xd.flatMap oD)::R) Y)->
 T W (Sep.pt t [.l b cs.length c,.i (x.2:Int),.i (lf:Int)]::own b cs.length c 4 (cs.flatMap oD)::R) X):T W L X:=
 TB (P:=pL t) λR hc w hs=>by
  obtain⟨⟨b,c,cs,lf⟩,hs⟩:=hs.ex;obtain⟨ht,hs⟩:=hs.and;refine h b c cs lf R ht (λb' c' xd u' Nj m' Y Mg hy w h'=>hc (m',u') Y hy w ?_) w hs.split;exact St.rA (b',c',xd,Nj) (St.and_intro Mg (St.join h'))
def T.ae6{A B C:HP}{R:LH}(h:T W (A::B::C::R) X):T W (C::A::B::R) X:=T.perm h (iM (l₁:=[A,B])).symm
def TV{k:Nat}(h:T W L (K (.u (spread k)))):T W L (uW (nm k) K):=by
 unfold uW
 repeat' first|apply ws;intros|apply wb|refine dU (by decide) ?_
 apply T.fin (T.dp h)
 rfl
def aat{N:Nat}(h1:1<=N)(h2:N<=1048576):IntKind.u64.wrap (aa.wrap ((N:Int) -1))=(N:Int) -1:=by
 rw[aX (by omega)];obtain⟨n,hn⟩:∃n:Nat,(N:Int) -1=n:=⟨N-1,by omega⟩;rw[hn];exact te (by omega)
def Iq{N a d:Nat}(ha:a<N)(hd:d<N):((a+d)%N+N-a)%N=d:=by
 by_cases h:a+d<N
 ·rw[fG h,show a+d+N-a=N+d by omega,Nat.add_mod_left,fG hd]
 ·have:(a+d)%N=a+d-N:=by rw[Nat.mod_eq_sub_mod (by omega),fG (by omega)]
  rw[this,show a+d-N+N-a=d by omega,fG hd]
def TU{N a d:Nat}(hN:Pow N):dj .u64 .and (IntKind.u64.wrap ((((a+d)%N:Nat):Int)+1)) ((N:Int) -1)=(((a+(d+1))%N:Nat):Int):=by
 have h1:=hN.le;have h2:=hN.ge;have h3:(a+d)%N<N:=Nat.mod_lt _ (by omega);rw[show(((a+d)%N:Nat):Int)+1=(((a+d)%N+1:Nat):Int) by omega,te (by omega),M5 hN (by omega)]
 congr 1
 rw[Nat.mod_add_mod];rfl
def Ki{b:OA}{c u lf k:Nat}{cs:List Cell}{m:Nat->Option Int}{x1 x2:Value}{f:LV->LH}{g:HP->LH}[i:Lc (Sep.pt t) L [.l b cs.length c,x1,x2] f][j:wX b cs.length c L 4 (cs.flatMap oD) g](ht:TI cs m u lf)
 (h1:∀(i:Nat)(y:Cell),cs[i]?=some y->y.kind=1->y.key=k->T W L (K (.tuple ⟨[.i (i:Int),.b true]⟩)))
 (h2:∀p:Nat,FR cs k p->T W L (K (.tuple ⟨[.i (p:Int),.b false]⟩))):T W L (dA (ah t) (nm k) K):=by
 have hN8:=ht.pow.ge;have hNl:=ht.pow.le;have hhl:=adD (N:=cs.length) (by omega) k;unfold dA
 repeat' first|apply ws;intros|apply wb|refine TV ?_
 rename_i r1;intro w hs;rw[aat (by omega) hNl,NV ht.pow];refine⟨λvs w=>∃(d:Nat)(put:Int),d<cs.length/\Seen cs k d/\(put= -1\/∃(dp:Nat)(z:Cell),dp<d/\put=(((hh cs.length k+dp)%cs.length:Nat):Int)/\cs[(hh cs.length k+dp)%cs.length]?=some z/\z.kind=2)/\
                           vs=[.p (some (ad r1 0)),.i 0,.b false,.u ((cs.length:Int) -1),.i put,.u (((hh cs.length k+d)%cs.length:Nat):Int)]/\St W w (Sep.pt r1 (nm k)::L),
  λvs _=>match vs with|[_,_,_,_,_,.int _ n]=>cs.length-(n.toNat+cs.length-hh cs.length k)%cs.length|_=>0,
  ⟨0,-1,by omega,λj hj=>by omega,.inl rfl,by rw[gM,fG hhl],hs⟩,?_⟩
 rintro a1 n1 b1 n2 put n4 w2 ⟨d,aio,hd,Mh,RV,e,hs⟩;cases e
 refine T.at ?_ hs;have cn:(hh cs.length k+d)%cs.length<cs.length:=Nat.mod_lt _ (by omega);have hy:=aj cn;generalize cs[(hh cs.length k+d)%cs.length]=y at hy;have pU:y∈cs:=cD hy;have ewr:aa.wrap (((hh cs.length k+d)%cs.length:Nat):Int)=(((hh cs.length k+d)%cs.length:Nat):Int):=aX (by omega);apply ws;refine dS ⟨by omega,by omega⟩ λr hr=>?_;subst hr;rw[ak];apply gI tI hy;have next:∀(r2:Nat)(Ud:Int),y.kind≠0-> ¬(y.kind=1/\y.key=k)->(Ud=put\/Ud=(((hh cs.length k+d)%cs.length:Nat):Int)/\y.kind=2)->
                                                                                                                                                                                                                                                                                                                                                                 T W (Sep.pt r2 (oD y)::Sep.pt r1 (nm k)::L) (λw4=>(∃(d':Nat)(put:Int),d'<cs.length/\Seen cs k d'/\(put= -1\/∃(dp:Nat)(z:Cell),dp<d'/\put=(((hh cs.length k+dp)%cs.length:Nat):Int)/\cs[(hh cs.length k+dp)%cs.length]?=some z/\z.kind=2)/\
                                                                                                                                                                                                                                                                                                                                                                 [Value.pointer (some (ad r1 0)),.i 0,.b false,.u ((cs.length:Int) -1),.i Ud,.u (((hh cs.length k+(d+1))%cs.length:Nat):Int)]=[.p (some (ad r1 0)),.i 0,.b false,.u ((cs.length:Int) -1),.i put,.u (((hh cs.length k+d')%cs.length:Nat):Int)]/\St W w4 (Sep.pt r1 (nm k)::L))/\
                                                                                                                                                                                                                                                                                                                                                                 cs.length-((((hh cs.length k+(d+1))%cs.length:Nat):Int).toNat+cs.length-hh cs.length k)%cs.length<cs.length-((((hh cs.length k+d)%cs.length:Nat):Int).toNat+cs.length-hh cs.length k)%cs.length):=by
  intro r2 Ud k0 k1 hp';have UN:=Mh.succ hy k0 k1;have hd':d+1<cs.length:=by
   by_cases hc:d+1<cs.length
   ·exact hc
   ·exact aT (λj hj=>UN.nf j (by omega)) λhh=>ht.free _ hh
  refine T.drop λw3 h3=>⟨⟨d+1,Ud,hd',UN,?_,rfl,h3⟩,?_⟩
  ·rcases hp' with rfl|⟨rfl,h2k⟩
   ·exact RV.imp id λ⟨dp,z,g1,g2,g3,g4⟩=>⟨dp,z,by omega,g2,g3,g4⟩
   ·exact .inr ⟨d,y,by omega,rfl,hy,h2k⟩
  ·rw[ak,ak,Iq hhl hd,Iq hhl hd'];omega
 apply ws;intros;rename_i r2;unfold dA.j1 dA.j2 dA.j3;simp only[TU ht.pow,ewr];apply dz<;>intro g0
 ·have k0:y.kind=0:=by simpa using g0
  apply dz<;>intro g1
  ·refine T.drop (T.drop (h2 _ ⟨⟨y,d,hy,by omega,hd,rfl,Mh.nf⟩,Mh.Dq ht hd hy k0⟩))
  ·have g2: ¬put<0:=by simpa using g1
   apply ws;apply ir (by simpa using k0);rcases RV with rfl|⟨dp,z,q1,rfl,q3,q4⟩
   ·omega
   ·refine T.drop (T.drop (h2 _ ⟨⟨z,dp,q3,by omega,by omega,rfl,λj hj=>Mh.nf j (by omega)⟩,Mh.Dq ht hd hy k0⟩))
 ·have k0:y.kind≠0:=by simpa using g0
  apply ws;apply ef (by simpa using k0);apply ws;apply dz<;>intro g1
  ·have k2:y.kind=2:=by simpa using g1
   apply dz<;>intro g2
   ·exact next r2 _ k0 (by omega) (.inr ⟨rfl,k2⟩)
   ·apply ws;refine ef (by rw[k2];rfl) ?_;apply ws;exact next r2 put k0 (by omega) (.inl rfl)
  ·have k1:y.kind=1:=by
    have:=ht.kinds y pU;have:y.kind≠2:=by simpa using g1
    omega
   apply ws;refine ir (by rw[k1];rfl) ?_;apply ws;apply dz<;>intro g2
   ·refine T.drop (T.drop (h1 _ y hy k1 (by simpa using g2)))
   ·exact next r2 put k0 (λhh=>by simp[hh.2] at g2) (.inl rfl)
def Ed{k:Nat}[i:Lc (pL t) L x f](h:T W L (K (.tuple ⟨[.i ((x.1 k).getD 0),.b (x.1 k).isSome]⟩))):T W L (iv (ah t) (nm k) K):=by
 unfold iv;refine uF λr1=>ef rfl ?_;apply ws;refine Ty (t:=t) λb c cs lf R ht hc=>?_;have close:=hc b c cs x.2 lf x.1;have hL:f (x.1,x.2)=L:=i.same;rw[<-hL] at h;refine Ki ht (λi y hy hk he=>?_) (λp hp=>?_)
 ·apply ws;have cn:=(ar.1 hy).1;refine dS ⟨by omega,by omega⟩ λr hr=>?_;subst hr;rw[ak];apply TH;apply FA (r:=r) (j:=2) tI hy rfl;apply ws;have e:=ht.is i y hy hk;rw[he] at e;rw[e] at h;exact close _ ht (T.drop h)
 ·apply ws;rw[ht.Dq hp.none_] at h;exact close _ ht (T.drop h)
def Wo{k:Nat}[i:Lc (pL t) L x f](hu:x.2<=1000)(h:(x.1 k).isSome=true->T W (f (xK x.1 k none,x.2-1)) (K (.b true)))(h0:x.1 k=none->T W L (K (.b false))):T W L (oR (ah t) (nm k) K):=by
 unfold oR;refine uF λr1=>ef rfl ?_;apply ws;refine Ty (t:=t) λb c cs lf R ht hc=>?_;have hL:f (x.1,x.2)=L:=i.same;rw[<-hL] at h0;refine Ki ht (λi y hy hk he=>?_) (λp hp=>?_)
 ·apply ws;have cn:=(ar.1 hy).1;refine dS ⟨by omega,by omega⟩ λr hr=>?_;subst hr;rw[ak];have hN:=ht.pow.le;have Mi:=ht.room;obtain⟨Mg,hu1⟩:=ht.drop hy hk;rw[he] at Mg;have e:=ht.is i y hy hk;rw[he] at e;apply dU rfl;show T W _ (jY _ (oD ⟨0,0,2⟩) _);apply rN tI cn (Ap _);apply ws;rw[aX (by omega),aX (by omega),show(x.2:Int) -1=((x.2-1:Nat):Int) by omega,show(lf:Int)+1=((lf+1:Nat):Int) by omega];have:=hc (ah r) c _ _ _ _ _ Mg (T.drop (h (by rw[e];rfl)));rw[je] at this;exact this
 ·apply ws;exact hc _ _ _ _ _ _ _ ht (T.drop (h0 (ht.Dq hp.none_)))
structure Part(cs:List Cell)(i:Nat)(m':Nat->Option Int)(u':Nat):Prop where
 toX:∀(k:Nat)(v:Int),m' k=some v->∃(j:Nat)(y:Cell),j<i/\cs[j]?=some y/\y.kind=1/\y.key=k/\y.at_=v
 from_:∀(j:Nat)(y:Cell),j<i->cs[j]?=some y->y.kind=1->m' y.key=some y.at_
 n:u'=(cs.take i).countP (λc:Cell=>c.kind=1)
def Part.same{cs:List Cell}{m m':Nat->Option Int}{u lf u':Nat}(ht:TI cs m u lf)(hp:Part cs cs.length m' u'):m'=m/\u'=u:=by
 constructor
 ·funext k
  cases hm:m' k with
  |some v=>
   obtain⟨j,y,h1,h2,h3,h4,h5⟩:=hp.toX k v hm;have:=ht.is j y h2 h3;rw[h4,h5] at this;exact this.symm
  |none=>
   cases hk:m k with
   |none=>rfl
   |some v=>
    obtain⟨j,y,h2,h3,h4⟩:=ht.has k v hk;have:=hp.from_ j y (ar.1 h2).1 h2 h3;rw[h4,hm] at this;cases this
 ·rw[hp.n,aV,ht.used]
def za(cs:List Cell)(p:Cell->Bool){i:Nat}{y:Cell}(hy:cs[i]?=some y):(cs.take (i+1)).countP p=(cs.take i).countP p+(if p y then 1 else 0):=by
 have cn:=(ar.1 hy).1;rw[qV cn,List.countP_append];have:cs[i]=y:=by rw[aj cn] at hy;exact bA.inj hy
 rw[this,List.countP_singleton]
def abH{b:OA}{c u lf:Nat}{cs:List Cell}{m:Nat->Option Int}{R:LH}(ht:TI cs m u lf)(hu:u<=1000)
 (h:∀b' c' xd,TI xd m u 0->3* (u+1)<=xd.length->T W (Sep.pt t [.l b' xd.length c',.i (u:Int),.i 0]::own b' xd.length c' 4 (xd.flatMap oD)::R) (K (.tuple ⟨[]⟩))):
 T W (Sep.pt t [.l b cs.length c,.i (u:Int),.i (lf:Int)]::own b cs.length c 4 (cs.flatMap oD)::R) (qP (ah t) K):=by
 unfold qP;have hN8:=ht.pow.ge;have hNl:=ht.pow.le;apply ws;intro w hs;refine⟨λvs w=>∃n:Nat,Pow n/\n<=6* (u+1)+8/\vs=[.l b cs.length c,.i (n:Int)]/\St W w (Sep.pt t [.l b cs.length c,.i (u:Int),.i (lf:Int)]::own b cs.length c 4 (cs.flatMap oD)::R),
  λvs _=>match vs with|[_,.int _ n]=>3* (u+1) -n.toNat|_=>0,⟨8,⟨3,by decide,by decide,rfl⟩,by omega,rfl,hs⟩,?_⟩
 rintro ov mo qf n1 w2 ⟨n,hn,hnb,e,hs⟩;cases e
 refine T.at ?_ hs;have hn8:=hn.ge;apply ws;rw[aX (show-9223372036854775808<=(u:Int)+1/\(u:Int)+1<=9223372036854775807 by omega),aX (by omega)];apply ga<;>intro h1
 ·have h1:(n:Int)<3* ((u:Int)+1):=h1;rw[aX (by omega)];refine λw3 h3=>⟨⟨n* 2,?_,by omega,by rw[show(n:Int)* 2=((n* 2:Nat):Int) by omega],h3⟩,?_⟩
  ·obtain⟨j,j1,j2,j3⟩:=hn;refine⟨j+1,by omega,?_,by rw[Av,j3]⟩;by_cases hj:j+1<=20
   ·exact hj
   ·have:j=20:=by omega
    subst this;have:n=1048576:=by rw[j3]
    omega
  ·show 3* (u+1) -((n:Int)* 2).toNat<3* (u+1) -(n:Int).toNat;omega
 have h1: ¬(n:Int)<3* ((u:Int)+1):=h1;refine JF ⟨by omega,by omega,by omega,by omega⟩ λr=>?_;rw[ak,sn (g:=oD) (z:=⟨0,0,0⟩) (zs:=[.u 0,.u 0,.i 0,.int .u8 0]) rfl];show T W (own (ah r) n n 4 ((bw n (⟨0,0,0⟩:Cell)).flatMap oD)::_) _;apply ws;intro w4 hs;refine⟨λvs w=>∃(i:Nat)(xd:List Cell)(m':Nat->Option Int)(u':Nat),i<=cs.length/\xd.length=n/\TI xd m' u' 0/\Part cs i m' u'/\vs=[.l b cs.length c,.i (cs.length:Int),.i (i:Int)]/\
                                                                                                St W w (own (ah r) n n 4 (xd.flatMap oD)::Sep.pt t [.l (ah r) n n,.i (u:Int),.i 0]::own b cs.length c 4 (cs.flatMap oD)::R),
  λvs _=>match vs with|[_,_,.int _ i]=>cs.length-i.toNat|_=>0,
  ⟨0,bw n ⟨0,0,0⟩,λ_=>none,0,by omega,kV,TI.new hn,⟨(λk v hh=>by cases hh),(λj y hj=>by omega),by simp⟩,rfl,hs⟩,?_⟩
 rintro uU uG uP n3 n4 w5 ⟨i,xd,m',u',hi,Np,Mg,hp,e,hs⟩;cases e
 refine T.at ?_ hs;apply ga<;>intro g1
 ·have cn:i<cs.length:=by omega
  have e5:=nI i;have hy:=aj cn;generalize cs[i]=y at hy;have hut:u'+(if y.kind=1 then 1 else 0)<=u:=by
   have e1:=za cs (λc:Cell=>c.kind=1) hy;have e2:(cs.take (i+1)).countP (λc:Cell=>c.kind=1)<=cs.countP (λc:Cell=>c.kind=1):=(List.take_sublist _ _).countP_le;rw[ht.used,e1,<-hp.n] at e2;simpa using e2
  refine dS ⟨by omega,by omega⟩ λrb UR=>?_;subst UR;rw[ak];apply gI tI hy;apply ws;intros;rw[e5];apply dz<;>intro g2
  ·have k1:y.kind=1:=by simpa using g2
   rw[ai k1] at hut;apply ws;subst Np;have pq:m' y.key=none:=by
    cases hm:m' y.key with
    |none=>rfl
    |some v=>
     obtain⟨j,z,q1,q2,q3,q4,q5⟩:=hp.toX _ _ hm;have:=ht.one j i z y q2 hy q3 k1 q4;omega
   refine Ki Mg (λi2 z hz hk he=>?_) (λp R7=>?_)
   ·have:=Mg.is i2 z hz hk;rw[he,pq] at this;cases this
   apply ws;obtain⟨z,d,hz,hzk,_⟩:=R7.place;have Cg:=(ar.1 hz).1;refine ue ⟨by omega,by omega⟩ ?_;rw[ak];apply ws;apply rN tI Cg (Ap _);have I4:=Mg.put (v:=y.at_) R7 hz (by omega);have hz2:z.kind≠2:=λhh=>by
    have:=List.countP_eq_zero.1 Mg.left z (cD hz);simp[hh] at this
   rw[ag hz2] at I4;have ey:(⟨y.key,y.at_,1⟩:Cell)=y:=by rw[<-k1]
   rw[ey] at I4;refine T.drop λw6 h6=>⟨⟨i+1,xd.set p y,xK m' y.key (some y.at_),u'+1,cn,je,I4,⟨?_,?_,?_⟩,rfl,h6⟩,dn (by omega)⟩
   ·intro k v hk;unfold xK at hk;by_cases ek:k=y.key
    ·rw[ai ek] at hk;cases hk;exact⟨i,y,by omega,hy,k1,ek.symm,rfl⟩
    ·rw[ag ek] at hk;obtain⟨j,z,q1,q2⟩:=hp.toX k v hk;exact⟨j,z,by omega,q2⟩
   ·intro j z hj WB hzk;unfold xK;by_cases ek:z.key=y.key
    ·have:=ht.one j i z y WB hy hzk k1 ek;subst this;rw[hy] at WB;cases WB
     rw[ai rfl]
    ·rw[ag ek];refine hp.from_ j z ?_ WB hzk;by_cases ej:j=i
     ·subst ej;rw[hy] at WB;cases WB;exact aT rfl ek
     ·omega
   ·rw[za cs _ hy,hp.n];simp[k1]
  ·have k1: ¬y.kind=1:=by simpa using g2
   refine T.drop λw6 h6=>⟨⟨i+1,xd,m',u',cn,Np,Mg,⟨?_,?_,?_⟩,rfl,h6⟩,dn (by omega)⟩
   ·intro k v hk;obtain⟨j,z,q1,q2⟩:=hp.toX k v hk;exact⟨j,z,by omega,q2⟩
   ·intro j z hj WB hzk;refine hp.from_ j z ?_ WB hzk;by_cases ej:j=i
    ·subst ej;rw[hy] at WB;cases WB;exact aT hzk k1
    ·omega
   ·rw[za cs _ hy,hp.n];simp[k1]
 ·have he:i=cs.length:=by omega
  subst he;obtain⟨rfl,rfl⟩:=hp.same ht;subst Np;have:=h (ah r) xd.length xd Mg (by omega);exact λw hs=>this w ((hs.perm (cf.swap _ _ _)).focus (k:=2) rfl).drop
def LO{b:OA}{c u lf k:Nat}{v:Int}{cs:List Cell}{m:Nat->Option Int}{R:LH}{r1:Nat}{g:LV->LH}[i:Lc (Sep.pt r1) R (nm k) g](ht:TI cs m u lf)(hr:4* (u+lf+1)<=3* cs.length)(hk:m k=none)
 (h:∀b' c' xd Nj,TI xd (xK m k (some v)) (u+1) Nj->T W (Sep.pt t [.l b' xd.length c',.i ((u+1:Nat):Int),.i (Nj:Int)]::own b' xd.length c' 4 (xd.flatMap oD)::R) (K (.b true))):
 T W (Sep.pt t [.l b cs.length c,.i (u:Int),.i (lf:Int)]::own b cs.length c 4 (cs.flatMap oD)::R) (dZ.j1 K r1 (ah t) v):=by
 unfold dZ.j1;apply ws;refine Ki ht (λi2 z hz hkk he=>?_) (λp R7=>?_)
 ·have:=ht.is i2 z hz hkk;rw[he,hk] at this;cases this
 obtain⟨z,d,hz,hzk,_⟩:=R7.place;have Cg:=(ar.1 hz).1;have hN:=ht.pow.le;apply ws;refine dS ⟨by omega,by omega⟩ λr hr=>?_;subst hr;rw[ak];simp only[ia,aB];apply FA (r:=r) (j:=3) tI hz rfl;have I4:=ht.put (v:=v) R7 hz hr;have acX:∀Nj:Nat,Nj=(if z.kind=2 then lf-1 else lf)->T W (Sep.pt t [.l (ah r) cs.length c,.i (u:Int),.i (Nj:Int)]::own (ah r) cs.length c 4 (cs.flatMap oD)::R) (dZ.j2 K (ah t) r1 (p:Int) v):=by
  intro Nj hlf;unfold dZ.j2;apply ws;refine ue ⟨by omega,by omega⟩ ?_;rw[ak];apply dU rfl;show T W _ (jY _ (oD ⟨k,v,1⟩) _);apply rN tI Cg (Ap _);apply ws;have Mi:=ht.room;rw[aX (by omega),show(u:Int)+1=((u+1:Nat):Int) by omega];have:=h (ah r) c (cs.set p ⟨k,v,1⟩) Nj (by rw[hlf];exact I4);rw[je] at this;exact this
 have Mi:=ht.room;apply ws;apply dz<;>intro g2
 ·have k2:z.kind=2:=by simpa using g2
  have h1:1<=lf:=by
   rw[<-ht.left];exact List.countP_pos_iff.2 ⟨z,cD hz,by simpa using k2⟩
  apply ws;rw[aX (by omega),show(lf:Int) -1=((lf-1:Nat):Int) by omega];exact acX (lf-1) (by rw[ai k2])
 ·have k2: ¬z.kind=2:=by simpa using g2
  exact acX lf (by rw[ag k2])
def Q0{k:Nat}{v:Int}[i:Lc (pL t) L x f](hu:x.2<=1000)(hk:x.1 k=none)(h:T W (f (xK x.1 k (some v),x.2+1)) (K (.b true))):T W L (dZ (ah t) (nm k) v K):=by
 refine Ty (t:=t) λb c cs lf R ht hc=>?_;unfold dZ;refine uF λr1=>ef rfl ?_;apply T.ae6;have hN:=ht.pow.le;have Mi:=ht.room;have fin:∀b' c' xd Nj,TI xd (xK x.1 k (some v)) (x.2+1) Nj->T W (Sep.pt t [.l b' xd.length c',.i ((x.2+1:Nat):Int),.i (Nj:Int)]::own b' xd.length c' 4 (xd.flatMap oD)::Sep.pt r1 (nm k)::R) (K (.b true)):=
  λb' c' xd Nj Mg w hs=>hc _ _ _ _ _ _ _ Mg h w (hs.focus (k:=2) rfl).drop
 have hw1:aa.wrap ((x.2:Int)+lf)=(x.2:Int)+lf:=aX (by omega);have hw2:aa.wrap ((x.2:Int)+lf+1)=(x.2:Int)+lf+1:=aX (by omega);have hw3:aa.wrap (4* ((x.2:Int)+lf+1))=4* ((x.2:Int)+lf+1):=aX (by omega);have hw4:aa.wrap (3* (cs.length:Int))=3* (cs.length:Int):=aX (by omega);apply ws;rw[hw1,hw2,hw3,hw4];apply ga<;>intro g
 ·refine abH ht hu λb' c' xd Mg Np=>?_;apply ws;exact LO (lf:=0) Mg (by omega) hk fin
 ·have:=g;exact LO ht (by omega) hk fin
def aar(h:∀t,T W (pL t (λ_=>none,0)::L) (K (.p (ah t)))):T W L (xj K):=by
 unfold xj;refine JF ⟨by decide,by decide,by decide,by decide⟩ λr=>?_;rw[show((8:Int).toNat)=8 from rfl,sn (g:=oD) (z:=⟨0,0,0⟩) (zs:=[.u 0,.u 0,.i 0,.int .u8 0]) rfl];apply ws;intros;rename_i r1;refine λw hs=>h r1 w ?_;exact St.rA (ah r,8,bw 8 ⟨0,0,0⟩,0) (St.and_intro (TI.new ⟨3,by decide,by decide,rfl⟩) (St.join hs))
end
section
variable {W:World} {L:LH} {K:VK} {X:WK} {α:Type} {r o:Nat} {pre post:LV} {g:α->LV} {e:Nat} {l:List α} {f:List α->LH}
def im{e:Nat}(h:T W (own none 0 0 e []::L) X):T W L X:=λw hs=>h w (hs.push (sA e))
def kZ{b:OA}{n c bytes r1:Nat}{zero:LV}{x:α}{ys:LV}{f:HP->LH}{f1:LV->LH}{K:OA->Nat->Nat->WK}[i:wX b n c L e (l.flatMap g) f][j:Lc (Sep.pt r1) L ys f1](hy:ys=g x)(hg:(g x).length=e)(hz:zero.length=e)
 (hb:(n+1)* bytes<=140737488355328)(hm:n+1<=9223372036854775807)(h1:∀v∈g x,v.oneCell'=true)(h:∀b' c',T W (f (own b' (n+1) c' e ((l++[x]).flatMap g))) (K b' (n+1) c')):T W L (iP e bytes zero b n c (ah r1) 1 K):=by
 refine TP (ys:=ys) (by rw[hy];exact hg) hz hb (by rw[hy];exact h1) (λb' c'=>?_) hm;have:=h b' c';rw[gj] at this;simpa [hy] using this
def Gb{b:OA}{n c e i:Nat}{xs:LV}(hi:i<=n):∀h,own b n c e xs h->own b i c e (xs.take (i* e)) h:=λh=>by
 rintro⟨hl,h0|⟨r,sp,hb,vX,A5,hp⟩⟩
 ·obtain⟨rfl,rfl,rfl⟩:=h0;have:i=0:=by omega
  subst this;exact⟨by simp,.inl ⟨rfl,rfl,rfl⟩⟩
 ·have hie:i* e<=n* e:=iA e hi;refine⟨by rw[aD];omega,.inr ⟨r,xs.drop (i* e)++sp,hb,by omega,?_,?_⟩⟩
  ·rw[av,aS,A5,hl,Nat.sub_mul,Nat.sub_mul];have:n* e<=c* e:=iA e vX;omega
  ·rw[<-aH,dy];exact hp
def Jh{g:α->LV}(hg:∀x,(g x).length=e):∀(l:List α)(i:Nat),(l.flatMap g).take (i* e)=(l.take i).flatMap g
 |[],i=>by simp
 |x::l,0=>by simp
 |x::l,i+1=>by
  rw[iQ,List.take_succ_cons,iQ,<-Jh hg l i,show(i+1)* e=(g x).length+i* e by rw[hg,mG];omega,List.take_length_add_append]
def BG{b:OA}{n c i:Nat}{f:HP->LH}[j:wX b n c L e (l.flatMap g) f](hg:∀x,(g x).length=e)(hi:i<=n)(h:T W (f (own b i c e ((l.take i).flatMap g))) X):T W L X:=λw hs=>by
 obtain⟨k,hk,e1⟩:=j.at_;apply h w;rw[e1,<-Jh hg];exact St.ss ((hs.focus hk).mono (Gb hi)) hk
def AS{b:OA}{n c i:Nat}{K:OA->Nat->Nat->WK}(hi:i<=c)(h:T W L (K b i c)):T W L (tf b n c e none (some (i:Int)) K):=by
 unfold tf;refine dU ⟨by omega,by omega⟩ ?_;dsimp only;rw[ZP,ak];exact h
def rG{b:OA}{n c:Nat}{f:HP->LH}{xs:LV}[j:wX b n c L e xs f](h:n<=c->xs.length=n* e->T W L X):T W L X:=λw hs=>by
 obtain⟨k,hk,_⟩:=j.at_;obtain⟨hl,h0|⟨r,sp,hb,vX,_⟩⟩:=hs.oU hk
 ·exact h (by omega) hl w hs
 ·exact h vX hl w hs
end
abbrev oG:=Int×Int
def pO(p:oG):LV:=[.i p.1,.i p.2]
def oT(p:oG):(pO p).length=2:=rfl
instance{p:oG}:Ln (pO p) 2:=⟨rfl⟩
instance{p:oG}:Gt (pO p) 1 (.i p.2):=⟨rfl⟩
def u6(p:oG):∀v∈pO p,v.oneCell'=true:=λv h=>by simp[pO] at h;rcases h with rfl|rfl<;>rfl
instance{x1 x2:Value}{p:oG}:Wr [x1,x2] 0 (pO p) (pO p):=⟨rfl,aI _,u6 p⟩
def pos(s:Int):List oG->Nat
 |[]=>0
 |p::l=>if p.1<s then pos s l+1 else 0
def J0(s:Int):∀l:List oG,pos s l<=l.length
 |[]=>aI _
 |p::l=>by unfold pos;split<;>simp;exact J0 s l
def tM(l:List oG):Prop:=l.Pairwise λa b=>a.1<b.1
def N9(s:Int):∀(l:List oG)(i:Nat),i<=l.length->(∀(j:Nat)(p:oG),j<i->l[j]?=some p->p.1<s)->(∀(j:Nat)(p:oG),i<=j->l[j]?=some p->s<=p.1)->i=pos s l
 |[],i,hi,_,_=>by simp at hi;subst hi;rfl
 |q::l,0,hi,h1,h2=>by
  unfold pos;rw[ag];have:=h2 0 q (aI _) rfl;omega
 |q::l,i+1,hi,h1,h2=>by
  unfold pos;rw[ai (h1 0 q (by omega) rfl),<-N9 s l i (by simpa using hi) (λj p hj hp=>h1 (j+1) p (by omega) (by simpa using hp)) (λj p hj hp=>h2 (j+1) p (by omega) (by simpa using hp))]
def half{i j:Nat}(h:i+j<4611686018427387904):aa.wrap (shr .u64 (IntKind.u64.wrap (aa.wrap ((i:Int)+j))) 1)=(((i+j)/2:Nat):Int):=by
 have e0:aa.wrap ((i:Int)+j)=((i+j:Nat):Int):=by rw[aX (by omega)];omega
 rw[e0,te (by omega)];unfold shr;have e:min (1:Int).toNat IntKind.u64.bits=1:=rfl;rw[e,Hs _ (by decide)];rw[aX (by omega)];omega
def CB(s:Int)(l:List oG)(i:Nat):Bool:=match l[i]? with|some p=>decide (s<=p.1)|none=>true
section
variable {W:World} {L:LH} {K:VK} {X:WK} {r o:Nat} {l:List oG}
def V8{n:Nat}{v:Value}(P:Nat->Bool)(hn:n<1099511627776)(aaa:∀i j,i<=j->P i=true->P j=true)
 (adJ:∀(i:Nat)(K:VK),i<n->T W L (K (.b (P i)))->T W L (xF [(N.fR,fR.u)] v [.i (i:Int)] K))
 (h:∀i:Nat,i<=n->(∀j,j<i->P j=false)->(∀j,i<=j->j<n->P j=true)->T W L (K (.i (i:Int)))):T W L (wa (n:Int) v K):=by
 unfold wa;intro w hs;refine⟨λvs w=>∃i j:Nat,i<=j/\j<=n/\(∀k,k<i->P k=false)/\(∀k,j<=k->k<n->P k=true)/\vs=[.i 0,.i (i:Int),.i (j:Int)]/\St W w L,
  λvs _=>match vs with|[_,.int _ i,.int _ j]=>j.toNat-i.toNat|_=>0,⟨0,n,aF _,aI _,(λk hk=>by omega),(λk h1 h2=>by omega),rfl,hs⟩,?_⟩
 rintro n2 n3 n4 w2 ⟨i,j,Nr,hjn,hi,hj,e,hs⟩;cases e
 refine T.at ?_ hs;rw[half (by omega)];apply ga<;>intro g
 ·have cn:i<j:=by omega
  refine dU (by decide) (adJ _ _ (by omega) ?_);refine oF (dz (λg2=>?_) (λg2=>?_))
  ·have p0:P ((i+j)/2)=false:=by simpa using g2
   have e1:aa.wrap ((((i+j)/2:Nat):Int)+1)=(((i+j)/2+1:Nat):Int):=by rw[aX (by omega)];omega
   rw[e1];refine λw3 h3=>⟨⟨(i+j)/2+1,j,by omega,hjn,λk hk=>?_,hj,rfl,h3⟩,dn (by omega)⟩;cases hp:P k with
   |false=>rfl
   |true=>rw[aaa k ((i+j)/2) (by omega) hp] at p0;cases p0
  ·have p1:P ((i+j)/2)=true:=by simpa using g2
   refine λw3 h3=>⟨⟨i,(i+j)/2,by omega,by omega,hi,λk hk _=>aaa _ k hk p1,rfl,h3⟩,by show(((i+j)/2:Nat):Int).toNat-(i:Int).toNat<(j:Int).toNat-(i:Int).toNat;omega⟩
 ·have:i=j:=by omega
  subst this;exact h i hjn hi hj
def EL{s:Int}{cs:LV}{b:OA}{c:Nat}{f:LV->LH}{g:HP->LH}(hv:cs[o]?=some (.l b l.length c))(hr:tM l)(hl:l.length<1099511627776)[i:Lc (Sep.pt r) L cs f][j:wX b l.length c L 2 (l.flatMap pO) g](h:T W L (K (.i (pos s l:Int)))):T W L (mu (some ⟨r,o,none⟩) s K):=by
 unfold mu
 repeat' first|apply ws;intros|apply wb|refine nU hv ?_
 rename_i r1 r2;refine V8 (CB s l) hl ?_ ?_ ?_
 ·intro i j Nr hi;unfold CB at *;by_cases hj:j<l.length
  ·have vV:i<l.length:=by omega
   rw[aj vV] at hi;rw[aj hj];simp only[decide_eq_true_eq] at *;by_cases e:i=j
   ·subst e;exact hi
   ·have:=kC.1 hr i j vV hj (by omega);omega
  ·rw[qu (by omega)]
 ·intro i K hi hK;show T W _ (fR (i:Int) (ad r1 0) (ad r2 0) K);unfold fR
  repeat' first|apply ws|apply wb|refine nU hv ?_
  refine dS ⟨by omega,by omega⟩ λrb hb=>?_;subst hb;rw[ak];refine FB oT (aj hi) rfl ?_;apply ws;apply T.fin (T.dp hK);unfold CB;rw[aj hi]
 ·intro i hi h1 h2;apply ws;have e:i=pos s l:=N9 s l i hi (λj p hj hp=>by
   have:=h1 j hj
   unfold CB at this
   rw[hp] at this
   simpa using this) (λj p hj hp=>by
   have:=h2 j hj (ar.1 hp).1
   unfold CB at this
   rw[hp] at this
   simpa using this)
  subst e;exact T.drop (T.drop h)
def PZ{s:Int}:∀{l:List oG},(∀p∈l,p.1<s)->pos s l=l.length
 |[],_=>rfl
 |p::l,h=>by unfold pos;rw[ai (h p (by simp)),PZ λq hq=>h q (by simp[hq])];rfl
def JD{r o:Nat}{cs:LV}{v:Value}{u:Value}{f:LV->LH}[i:Lc (Sep.pt r) L cs f](hv:cs[o]?=some u)(h1:v.oneCell'=true)(h:T W (f (cs.set o v)) X):T W L (st ⟨r,o,none⟩ v X):=DD (ar.1 hv).1 h1 h
def uw{cs:LV}{o:Nat}{u v:Value}(hv:cs[o]?=some u):(cs.set o v)[o]?=some v:=by rw[dk,ai rfl,ai (ar.1 hv).1]
def ze{b:OA}{n c i e:Nat}{K:OA->Nat->Nat->WK}(hi:i<=n)(h:T W L (K (zi b c i e) (n-i) (c-i))):T W L (tf b n c e (some (i:Int)) none K):=by
 unfold tf;refine dU ⟨by omega,by omega⟩ ?_;rw[ak];exact h
def QX(w:World)(e:Nat)(b:OA):Src w 0 e b []:=⟨by simp,λa ha j v hj=>by simp at hj⟩
def acM{e n m:Nat}{b b':OA}{K:Nat->WK}(hm:min m n=0)(h:T W L (K 0)):T W L (Vy e b n b' m K):=λw hs=>by
 unfold Vy;rw[hm];exact⟨[],QX w e b',λ_=>rfl,λ_=>h w hs,λa _=>⟨⟨by simp,λj hj=>by simp at hj⟩,h w hs⟩⟩
def aaR{b b':OA}{n c e bytes:Nat}{zero:LV}{K:OA->Nat->Nat->WK}{xs:LV}{f:HP->LH}[i:wX b n c L e xs f](h:T W L (K b n c)):T W L (iP e bytes zero b n c b' 0 K):=
 rG (b:=b) λvX _ w hs=>⟨[],QX w e b',λ_=>rfl,λ_=>⟨λa _=>⟨⟨by simp,λj hj=>by simp at hj⟩,h w hs⟩,λ_=>h w hs⟩,λcn=>by omega⟩
section
variable {R:LH} {cs:LV} {b:OA} {c:Nat}
def aba{s a:Int}(hv:cs[o]?=some (.l b l.length c))(hr:tM l)(hl:l.length<1099511627)(hs:∀p∈l,p.1<s)
 (h:∀b' c',T W (Sep.pt r (cs.set o (.l b' (l.length+1) c'))::own b' (l.length+1) c' 2 ((l++[(s,a)]).flatMap pO)::R) (K (.b true))):
 T W (Sep.pt r cs::own b l.length c 2 (l.flatMap pO)::R) (jA (some ⟨r,o,none⟩) s a K):=by
 unfold jA;apply zg;apply EL hv hr (by omega);rw[PZ hs]
 repeat' first|apply ws|apply wb|refine nU hv ?_
 apply ef (by simp);unfold jA.j1
 repeat' first|apply ws;intros|apply wb|refine nU hv ?_
 refine kZ (x:=((0:Int),(0:Int))) rfl rfl rfl (by omega) (by omega) (u6 _) λb' c'=>?_
 repeat' first|apply ws|apply wb|first|refine JD hv rfl ?_|refine nU (uw hv) ?_
 have e1:aa.wrap ((l.length:Int)+1)=((l.length+1:Nat):Int):=by rw[aX (by omega)];omega
 rw[e1];apply ze (aI _)
 repeat' first|apply ws|apply wb|refine nU (uw hv) ?_
 apply ze (by omega);apply acM (by omega)
 repeat' first|apply ws|apply wb|first|refine zf (uw hv) ?_|refine nU (uw hv) ?_
 refine rG (b:=b') λvX hlen=>?_;refine dS ⟨by omega,by omega⟩ λrb hb=>?_;subst hb;rw[ak];apply dU rfl;show T W _ (jY _ (pO (s,a)) _);apply rN oT (by simp) (u6 _);have:=h (ah rb) c';rw[List.set_append_right _ _ (aI _)];simpa using T.drop this
def XO{s a:Int}{l0:List oG}(hv:cs[o]?=some (.l b l.length c))(hr:tM l)(hl:l.length<1099511627)(hs:l=l0++[(s,a)])
 (h:∀b' c',T W (Sep.pt r (cs.set o (.l b' l0.length c'))::own b' l0.length c' 2 (l0.flatMap pO)::R) (K (.b true))):
 T W (Sep.pt r cs::own b l.length c 2 (l.flatMap pO)::R) (jG (some ⟨r,o,none⟩) s K):=by
 have hlen:l.length=l0.length+1:=by rw[hs];simp
 have hp:pos s l=l0.length:=by
  refine(N9 s l l0.length (by omega) (λj p hj hpj=>?_) (λj p hj hpj=>?_)).symm
  ·have cn:=(ar.1 hpj).1;have:=kC.1 hr j l0.length cn (by omega) hj;rw[aj cn] at hpj;rw[bA.inj hpj] at this;have e:l[l0.length]=(s,a):=by simp[hs]
   rw[e] at this;exact this
  ·have cn:=(ar.1 hpj).1;have:j=l0.length:=by omega
   subst this;rw[hs] at hpj;simp at hpj;rw[<-hpj];exact eE _
 have hg:l[l0.length]?=some (s,a):=by rw[hs];simp
 unfold jG;apply zg;apply EL hv hr (by omega);rw[hp]
 repeat' first|apply ws|apply wb|refine nU hv ?_
 refine ef (by simp;omega) ?_
 repeat' first|apply ws|apply wb|refine nU hv ?_
 refine dS ⟨by omega,by omega⟩ λrb hb=>?_;subst hb;rw[ak];apply FB oT hg rfl;apply ws;unfold jG.j1;apply ef (by simp)
 repeat' first|apply ws|apply wb|refine nU hv ?_
 refine rG (b:=ah rb) λvX AJ=>?_;apply AS (by omega)
 repeat' first|apply ws|apply wb|refine nU hv ?_
 have e1:aa.wrap ((l0.length:Int)+1)=((l0.length+1:Nat):Int):=by rw[aX (by omega)];omega
 rw[e1];apply ze (by omega);rw[hlen] at hv;rw[hlen,kR];have et:l.take l0.length=l0:=by rw[hs];simp
 refine BG (b:=ah rb) (i:=l0.length) oT (by omega) ?_;rw[et];apply aaR (b:=ah rb)
 repeat' first|apply ws|apply wb|first|refine zf hv ?_|refine JD hv rfl ?_
 exact h _ _
def xe(toX:Int)(l:List oG):Nat:=if toX=0 then l.length else match l[pos toX l]? with|some p=>if p.1=toX then pos toX l+1 else pos toX l|none=>pos toX l
def W8(toX:Int)(l:List oG):xe toX l<=l.length:=by
 unfold xe;have:=J0 toX l;split
 ·exact aI _
 ·split
  ·rename_i p hp;have:=(ar.1 hp).1;split<;>omega
  ·omega
def q8(from_ toX:Int)(l:List oG):List oG:=(l.drop (pos from_ l)).take (xe toX l-pos from_ l)
def Xw{m out:List oG}{i:Nat}(hl:m.length=out.length)(hm:∀j,j<out.length->m[j]?=if j<i\/out.length-1-j<i then out[out.length-1-j]? else out[j]?)(hi:out.length<=2* i+1):m=out.reverse:=by
 apply qX;intro j;by_cases hj:j<out.length
 ·rw[hm j hj,List.getElem?_reverse hj];by_cases h:j<i\/out.length-1-j<i
  ·rw[ai h]
  ·rw[ag h];congr 1;omega
 ·rw[qu (by omega),qu (by simpa using hj)]
def Uq{from_ toX:Int}{An:Bool}{f:LV->LH}{g:HP->LH}(hv:cs[o]?=some (.l b l.length c))(hr:tM l)(hl:l.length<100000)[i:Lc (Sep.pt r) L cs f][j:wX b l.length c L 2 (l.flatMap pO) g]
 (h:∀b' c' out,out=(if An then(q8 from_ toX l).reverse else q8 from_ toX l)->T W (own b' out.length c' 2 (out.flatMap pO)::L) (K (.l b' out.length c'))):T W L (gu (some ⟨r,o,none⟩) from_ toX An K):=by
 unfold gu;apply zg
 repeat' first|apply ws|apply wb|refine nU hv ?_
 apply EL hv hr (by omega)
 repeat' first|apply ws|apply wb|refine zf hv ?_
 have j1:T W L (gu.j1 K (pos from_ l:Int) (some ⟨r,o,none⟩) An (xe toX l:Int)):=by
  have hul:=W8 toX l;unfold gu.j1;refine im (e:=2) ?_;intro w hs;refine⟨λvs w=>∃(k:Nat)(out:List oG)(b':OA)(c':Nat),pos from_ l<=k/\(k<=xe toX l\/k=pos from_ l)/\out=(l.drop (pos from_ l)).take (k-pos from_ l)/\out.length=k-pos from_ l/\
   vs=[.l none 0 0,.i (k:Int),.i (xe toX l:Int),.l b' out.length c']/\St W w (own b' out.length c' 2 (out.flatMap pO)::L),
   λvs _=>match vs with|[_,.int _ k,.int _ n,_]=>n.toNat-k.toNat|_=>0,⟨pos from_ l,[],none,0,aI _,.inr rfl,by simp,by simp,rfl,hs⟩,?_⟩
  rintro ov mo qf n5 n6 b' nJ c' w2 ⟨k,out,b0,c0,WL,td,vW,hol,e,hs⟩;cases e
  refine T.at ?_ hs;have SW:=J0 from_ l;apply ga<;>intro g1
  ·have cn:k<xe toX l:=by omega
   have e5:=nI k;have hg:=aj (show k<l.length by omega);generalize l[k]=p at hg
   repeat' first|apply ws|apply wb|refine nU hv ?_
   refine dS ⟨by omega,by omega⟩ λrb hb=>?_;subst hb;rw[ak,e5];apply gI oT hg;apply ws;intros;refine kZ (x:=p) rfl rfl rfl (by omega) (by omega) (u6 _) λb2 c2=>?_;refine T.drop λw3 h3=>⟨⟨k+1,out++[p],b2,c2,by omega,.inl cn,?_,by simp;omega,by simp,by simpa using h3⟩,dn (by omega)⟩;rw[show k+1-pos from_ l=(k-pos from_ l)+1 by omega,bg,<-vW,ta,show pos from_ l+(k-pos from_ l)=k by omega,hg]
   rfl
  ·have iZ:xe toX l<=k:=by omega
   have adl:out=q8 from_ toX l:=by
    rw[vW];unfold q8;rcases td with h2|h2
    ·rw[show k=xe toX l by omega]
    ·rw[h2,kR,show xe toX l-pos from_ l=0 by omega]
   apply dz<;>intro g2
   ·subst g2;intro w2 hs;refine⟨λvs w=>∃(i:Nat)(m:List oG),i<=out.length/\m.length=out.length/\(∀j,j<out.length->m[j]?=if j<i\/out.length-1-j<i then out[out.length-1-j]? else out[j]?)/\
     vs=[.l none 0 0,.l b' out.length c',.i (i:Int),.i ((out.length:Int) -1-i)]/\St W w (own b' out.length c' 2 (m.flatMap pO)::L),
     λvs _=>match vs with|[_,_,.int _ k,_]=>out.length-k.toNat|_=>0,⟨0,out,aF _,rfl,λj hj=>by simp,by rw[aX (by omega)];simp,hs⟩,?_⟩
    rintro TY SM SN PE Lm Rc n7 n8 w5 ⟨i,m,hi,Mm,hm,e,hs⟩;cases e
    refine T.at ?_ hs;apply ga<;>intro g3
    ·have cn:(i:Int)<(out.length:Int) -1-i:=g3;obtain⟨k2,afp⟩:∃k2:Nat,k2=out.length-1-i:=⟨_,rfl⟩;have ek:(out.length:Int) -1-i=(k2:Int):=by omega
     have e5:=nI i;have e6:aa.wrap ((k2:Int) -1)=(out.length:Int) -1-((i+1:Nat):Int):=by rw[aX (by omega)];omega
     have g4:=aj (show i<m.length by omega);have g5:=aj (show k2<m.length by omega);have g6:=hm i (by omega);have g7:=hm k2 (by omega);rw[ag (by omega)] at g6;rw[ag (by omega)] at g7;generalize m[i]=x at g4;generalize m[k2]=y at g5;rw[ek,e5,e6];apply ws;refine dS ⟨by omega,by omega⟩ λrb hb=>?_;subst hb;rw[ak];apply gI oT g5;refine ue ⟨by omega,by omega⟩ ?_;rw[ak];apply gI oT g4;refine ue ⟨by omega,by omega⟩ ?_;rw[ak];refine dU rfl (rN oT (by omega) (u6 _) ?_);refine ue ⟨by omega,by omega⟩ ?_;rw[ak];refine dU rfl (rN oT (by simp;omega) (u6 _) ?_);refine λw3 h3=>⟨⟨i+1,(m.set i y).set k2 x,by omega,by simp[Mm],λj hj=>?_,rfl,h3⟩,dn (by omega)⟩;rw[dk,dk];by_cases q1:k2=j
     ·subst q1;rw[ai rfl,ai (by simp;omega),ai (by omega),show out.length-1-k2=i by omega,<-g6,g4]
     ·rw[ag q1];by_cases q2:i=j
      ·subst q2;rw[ai rfl,ai (by omega),ai (by omega),<-afp,<-g7,g5]
      ·rw[ag q2,hm j hj];by_cases q3:j<i\/out.length-1-j<i
       ·rw[ai q3,ai (by omega)]
       ·rw[ag q3,ag (by omega)]
    ·have aix: ¬(i:Int)<(out.length:Int) -1-i:=g3;have:=Xw Mm hm (by omega);subst this;have:=h b' c' out.reverse (by rw[ai rfl,adl]);rw[jx] at this;exact this
   ·subst g2;exact h b' c' out (by rw[ag (by decide),adl])
 apply dz<;>intro g1
 ·have WC:toX≠0:=by simpa using g1
  apply EL hv hr (by omega);have hpt:=J0 toX l
  repeat' first|apply ws|apply wb|refine nU hv ?_
  unfold xe at j1;rw[ag WC] at j1;apply ga<;>intro g2
  ·have cn:pos toX l<l.length:=by omega
   have hg:=aj cn;generalize l[pos toX l]=p at hg;have e5:aa.wrap ((pos toX l:Int)+1)=((pos toX l+1:Nat):Int):=by rw[aX (by omega)];omega
   rw[hg] at j1;dsimp only at j1
   repeat' first|apply ws|apply wb|refine nU hv ?_
   rw[e5];refine dS ⟨by omega,by omega⟩ λrb hb=>?_;subst hb;rw[ak];apply FB oT hg rfl;apply ws;apply dz<;>intro g3
   ·rw[ai (by simpa using g3)] at j1;exact j1
   ·rw[ag (by simpa using g3)] at j1;exact j1
  ·have iZ:l.length<=pos toX l:=by omega
   rw[qu iZ] at j1;exact j1
 ·have WC:toX=0:=by simpa using g1
  unfold xe at j1;rw[ai WC] at j1;exact j1
end
end
structure Item where
 due:Int
 ay:Int
 id:Nat
def gR(x:Item):LV:=[.i x.due,.i x.ay]++nm x.id
def iX(x:Item):(gR x).length=4:=rfl
instance{x:Item}:Ln (gR x) 4:=⟨rfl⟩
instance{x:Item}:Gt (gR x) 0 (.i x.due):=⟨rfl⟩
instance{x:Item}:Gt (gR x) 1 (.i x.ay):=⟨rfl⟩
def qQ(x:Item):∀v∈gR x,v.oneCell'=true:=pC (λv h=>by simp at h;rcases h with rfl|rfl<;>rfl) (oV _)
instance{x1 x2 x3 x4:Value}{p:Item}:Wr [x1,x2,x3,x4] 0 (gR p) (gR p):=⟨rfl,aI _,qQ p⟩
instance{p:Item}:Sub (gR p) 0 4 (gR p):=⟨rfl,λj v h=>by rw[aB];exact h⟩
def bf(a b:Item):Prop:=a.due<b.due\/a.due=b.due/\a.ay<b.ay
instance(a b:Item):Decidable (bf a b):=by unfold bf;infer_instance
def QM{a b:Item}(h:bf a b): ¬bf b a:=by unfold bf at *;omega
def MW{a b c:Item}(h:bf a b)(g:bf b c):bf a c:=by unfold bf at *;omega
def Gl{a b c:Item}(h: ¬bf a b)(g: ¬bf b c): ¬bf a c:=by unfold bf at *;omega
def Uv{a b c:Item}(h: ¬bf a c)(g:bf b c): ¬bf a b:=λhh=>h (MW hh g)
def OW(a:Item): ¬bf a a:=by unfold bf;omega
def par(j:Nat):Nat:=(j-1)/2
def NB(h:List Item)(i j:Nat):Prop:=∀x y,h[i]?=some x->h[j]?=some y-> ¬bf x y
def vY(h:List Item):Prop:=∀j,0<j->NB h j (par j)
def HU(h:List Item)(i:Nat):Prop:=(∀j,0<j->j≠i->NB h j (par j))/\(∀j,0<j->par j=i->0<i->NB h j (par i))
def HD(h:List Item)(i:Nat):Prop:=(∀j,0<j->par j≠i->NB h j (par j))/\(∀j,0<j->par j=i->0<i->NB h j (par i))
def Kids(h:List Item)(i:Nat):Prop:=∀j,0<j->par j=i->NB h j i
def vY.hu{h:List Item}(hh:vY h)(i:Nat):HU h i:=by
 refine⟨λj h0 _=>hh j h0,λj h0 hp hi x y hx hy=>?_⟩;have cn:j<h.length:=(ar.1 hx).1;have R6:i<h.length:=by unfold par at hp;omega
 have a1:=hh j h0 x _ hx (by rw[hp];exact aj R6);exact Gl a1 (hh i hi _ y (aj R6) hy)
def HU.heap{h:List Item}{i:Nat}(hu:HU h i)(hx:i=0\/NB h i (par i)):vY h:=λj h0=>by
 by_cases e:j=i
 ·subst e;rcases hx with hx|hx
  ·omega
  ·exact hx
 ·exact hu.1 j h0 e
def HD.heap{h:List Item}{i:Nat}(hd:HD h i)(hk:Kids h i):vY h:=λj h0=>by
 by_cases e:par j=i
 ·rw[e];exact hk j h0 e
 ·exact hd.1 j h0 e
def Xg(h:List Item)(i k:Nat)(x y:Item):List Item:=(h.set i y).set k x
def Pv(h:List Item)(i k:Nat)(x y:Item):(Xg h i k x y).length=h.length:=by simp[Xg]
section
variable {h:List Item} {i k:Nat} {x y:Item}
def Pw(hx:h[i]?=some x)(hy:h[k]?=some y)(UY:i≠k)(j:Nat):(Xg h i k x y)[j]?=if j=i then some y else if j=k then some x else h[j]?:=by
 have l1:=(ar.1 hx).1;have l2:=(ar.1 hy).1;unfold Xg;rw[dk,dk];by_cases e1:k=j
 ·subst e1;rw[ai rfl,ai (by simpa using l2),ag (by omega),ai rfl]
 ·rw[ag e1];by_cases e2:i=j
  ·subst e2;rw[ai rfl,ai l1,ai rfl]
  ·rw[ag e2,ag (by omega),ag (by omega)]
def zX:∀{h:List Item} {i:Nat} {x y:Item},h[i]?=some x->(x::h.set i y).Perm (y::h)
 |[],i,x,y,hx=>by simp at hx
 |a::h,0,x,y,hx=>by simp at hx;subst hx;exact cf.swap _ _ _
 |a::h,i+1,x,y,hx=>by
  have ih:=zX (y:=y) (show h[i]?=some x by simpa using hx);rw[nN];exact(cf.swap _ _ _).trans ((ih.cons a).trans (cf.swap _ _ _))
def Lk(hx:h[i]?=some x)(hy:h[k]?=some y)(UY:i≠k):(Xg h i k x y).Perm h:=by
 have h1:=zX (y:=y) hx;have hy2:(h.set i y)[k]?=some y:=by rw[dk,ag UY];exact hy
 have h2:=zX (y:=x) hy2;exact(List.perm_cons y).1 (h2.trans h1)
def HU.step(hu:HU h i)(hi:0<i)(hx:h[i]?=some x)(hy:h[par i]?=some y)(hb:bf x y):HU (Xg h i (par i) x y) (par i):=by
 have UY:i≠par i:=by unfold par;omega
 have g:=Pw hx hy UY
 constructor
 ·intro j h0 hj a b ha rH;rw[g] at ha rH;by_cases e1:j=i
  ·subst e1;rw[ai rfl] at ha;cases ha
   rw[ag (λh=>UY h.symm),ai rfl] at rH;cases rH
   exact QM hb
  ·rw[ag e1,ag hj] at ha;by_cases e2:par j=i
   ·rw[ai e2] at rH;cases rH
    exact hu.2 j h0 e2 hi a y ha hy
   ·rw[ag e2] at rH;by_cases e3:par j=par i
    ·rw[ai e3] at rH;cases rH
     exact Uv (hu.1 j h0 e1 a y ha (by rw[e3];exact hy)) hb
    ·rw[ag e3] at rH;exact hu.1 j h0 e1 a b ha rH
 ·intro j h0 hp Nl a b ha rH;have n1:par (par i)≠i:=by unfold par;omega
  have n2:par (par i)≠par i:=by unfold par at *;omega
  rw[g] at ha rH;rw[ag n1,ag n2] at rH;have top:=hu.1 (par i) Nl (λh=>UY h.symm) y b hy rH;by_cases e1:j=i
  ·subst e1;rw[ai rfl] at ha;cases ha
   exact top
  ·have n3:j≠par i:=by intro h;rw[h] at hp;exact n2 hp
   rw[ag e1,ag n3] at ha;exact Gl (hu.1 j h0 e1 a y ha (by rw[hp];exact hy)) top
def HD.step(hd:HD h i)(hk:par k=i)(h0k:0<k)(hx:h[i]?=some x)(hy:h[k]?=some y)(hb:bf y x)(Ax:∀j,0<j->par j=i->NB h j k):HD (Xg h i k x y) k:=by
 have UY:i≠k:=by intro h;unfold par at hk;omega
 have g:=Pw hx hy UY
 constructor
 ·intro j h0 hj a b ha rH;rw[g] at ha rH;by_cases e1:j=i
  ·subst e1;rw[ai rfl] at ha;cases ha
   have n1:par j≠j:=by unfold par;omega
   rw[ag n1,ag hj] at rH;exact hd.2 k h0k hk h0 y b hy rH
  ·rw[ag e1] at ha;by_cases e2:j=k
   ·subst e2;rw[ai rfl] at ha;cases ha
    rw[ai hk] at rH;cases rH
    exact QM hb
   ·rw[ag e2] at ha;by_cases e3:par j=i
    ·rw[ai e3] at rH;cases rH
     exact Ax j h0 e3 a y ha hy
    ·rw[ag e3,ag hj] at rH;exact hd.1 j h0 e3 a b ha rH
 ·intro j h0 hp hk0 a b ha rH;rw[g] at ha rH;rw[ai hk] at rH;cases rH
  have n1:j≠i:=by intro h;unfold par at hp hk;omega
  have n2:j≠k:=by intro h;unfold par at hp;omega
  rw[ag n1,ag n2] at ha;exact hd.1 j h0 (by rw[hp];exact λh=>UY h.symm) a y ha (by rw[hp];exact hy)
def vY.first(hh:vY h)(hx:h[0]?=some x):∀y∈h,¬bf y x:=by
 have key:∀(n j:Nat),j<=n->∀y:Item,h[j]?=some y-> ¬bf y x:=by
  intro n
  induction n with
  |zero=>intro j hj y hy;have:j=0:=by omega
         subst this;rw[hx] at hy;cases hy;exact OW x
  |succ n ih=>
   intro j hj y hy;by_cases h0:j=0
   ·subst h0;rw[hx] at hy;cases hy;exact OW x
   ·have cn:=(ar.1 hy).1;have hp:par j<h.length:=by unfold par;omega
    exact Gl (hh j (by omega) y _ hy (aj hp)) (ih (par j) (by unfold par;omega) _ (aj hp))
 intro y hy;obtain⟨j,hj⟩:=qW hy;exact key j j (aI _) y hj
def Po{z:Item}{n:Nat}(hh:vY h)(hl:h.length=n+1)(hi:i<n)(hz:h[n]?=some z):
 (i=0\/NB ((h.set i z).take n) i (par i))->HD ((h.set i z).take n) i:=by
 have g:∀j,((h.set i z).take n)[j]?=if j<n then(if j=i then some z else h[j]?) else none:=by
  intro j;rw[s8];by_cases h1:j<n
  ·rw[ai h1,ai h1,dk];by_cases h2:i=j
   ·subst h2;rw[ai rfl,ai (by omega),ai rfl]
   ·rw[ag h2,ag (by omega)]
  ·rw[ag h1,ag h1]
 have old:∀j a,j≠i->((h.set i z).take n)[j]?=some a->h[j]?=some a:=by
  intro j a hj ha;rw[g] at ha;rw[ag hj] at ha;split at ha
  ·exact ha
  ·cases ha
 intro ht;refine⟨λj h0 hp a b ha hb=>?_,λj h0 hp hi0 a b ha hb=>?_⟩
 ·by_cases e:j=i
  ·subst e;rcases ht with ht|ht
   ·omega
   ·exact ht a b ha hb
  ·exact hh j h0 a b (old j a e ha) (old _ b hp hb)
 ·have n1:j≠i:=by intro h;unfold par at hp;omega
  have n2:par i≠i:=by unfold par;omega
  exact(hh.hu i).2 j h0 hp hi0 a b (old j a n1 ha) (old _ b n2 hb)
def Xb{z:Item}{n:Nat}(hh:vY h)(hl:h.length=n+1)(hi:i<n)(hz:h[n]?=some z)(h0i:0<i){y:Item}(hy:h[par i]?=some y)(hb:bf z y):
 HU ((h.set i z).take n) i/\Kids ((h.set i z).take n) i:=by
 have g:∀j,((h.set i z).take n)[j]?=if j<n then(if j=i then some z else h[j]?) else none:=by
  intro j;rw[s8];by_cases h1:j<n
  ·rw[ai h1,ai h1,dk];by_cases h2:i=j
   ·subst h2;rw[ai rfl,ai (by omega),ai rfl]
   ·rw[ag h2,ag (by omega)]
  ·rw[ag h1,ag h1]
 have old:∀j a,j≠i->((h.set i z).take n)[j]?=some a->h[j]?=some a:=by
  intro j a hj ha;rw[g] at ha;rw[ag hj] at ha;split at ha
  ·exact ha
  ·cases ha
 have top:=(hh.hu i).2;have kids:Kids ((h.set i z).take n) i:=λj h0 hp a b ha rH=>by
  have n1:j≠i:=by intro h;unfold par at hp;omega
  rw[g,ai hi,ai rfl] at rH;cases rH
  exact Uv (top j h0 hp h0i a y (old j a n1 ha) hy) hb
 refine⟨⟨λj h0 hj a b ha rH=>?_,λj h0 hp hi0 a b ha rH=>?_⟩,kids⟩
 ·by_cases e:par j=i
  ·rw[e] at rH;exact kids j h0 e a b ha rH
  ·exact hh j h0 a b (old j a hj ha) (old _ b e rH)
 ·have n1:j≠i:=by intro h;unfold par at hp;omega
  have n2:par i≠i:=by unfold par;omega
  exact top j h0 hp hi0 a b (old j a n1 ha) (old _ b n2 rH)
end
section
variable {W:World} {R:LH} {L:LH} {K:VK} {X:WK} {r o:Nat} {cs:LV} {b:OA} {c:Nat} {h:List Item}
def MX{x y:Item}(hk:T W L (K (.b (decide (bf x y))))):T W L (sz (gR x) (gR y) K):=by
 unfold sz
 repeat' first|apply ws;intros|apply wb|apply dz<;>intro h1
 all_goals apply T.fin (T.dp hk)
 ·have:=aR h1;rw[aw (show bf x y from .inl this)]
 ·rename_i h2;have h2:=bj h2;have h3:x.due=y.due:=by simpa using h1
  congr 1
  rw[decide_eq_decide];unfold bf;omega
 ·rename_i h2;have h2:=bj h2;have h3: ¬x.due=y.due:=by simpa using h1
  rw[ao (show ¬bf x y by unfold bf;omega)]
def Mv{i:Nat}(h0:0<i)(h:i<1099511627776):aa.wrap ((aa.wrap ((i:Int) -1)).tdiv (2:Int))=((par i:Nat):Int):=by
 have e0:aa.wrap ((i:Int) -1)=((i-1:Nat):Int):=by rw[aX (by omega)];omega
 rw[e0];unfold par;have e1:((i-1:Nat):Int).tdiv 2=(((i-1)/2:Nat):Int):=by rw[Int.tdiv_eq_ediv_of_nonneg (by omega)];omega
 rw[e1,aX (by omega)]
def acC{i:Nat}(hv:cs[o]?=some (.l b h.length c))(hl:h.length<100000)(hi:i<h.length)(hu:HU h i)
 (hk:∀h',vY h'->h'.Perm h->T W (Sep.pt r cs::own b h.length c 4 (h'.flatMap gR)::R) (K (.tuple ⟨[]⟩))):
 T W (Sep.pt r cs::own b h.length c 4 (h.flatMap gR)::R) (jz (some ⟨r,o,none⟩) (i:Int) K):=by
 unfold jz;intro w hs;refine⟨λvs w=>∃(j:Nat)(m:List Item),j<h.length/\m.length=h.length/\m.Perm h/\HU m j/\vs=[.i (j:Int)]/\St W w (Sep.pt r cs::own b h.length c 4 (m.flatMap gR)::R),
  λvs _=>match vs with|[.int _ j]=>j.toNat|_=>0,⟨i,h,hi,rfl,cf.refl _,hu,rfl,hs⟩,?_⟩
 rintro n2 w2 ⟨j,m,hj,Mm,hp,hum,e,hs⟩;cases e
 refine T.at ?_ hs;apply ws;apply ga<;>intro g1
 ·have h0:0<j:=by omega
  have SW:par j<m.length:=by unfold par;omega
  have gx:=aj (show j<m.length by omega);have gy:=aj SW;generalize m[j]=x at gx;generalize m[par j]=y at gy;have kJ:j≠par j:=by unfold par;omega
  simp only[Mv h0 (by omega:j<1099511627776)]
  repeat' first|apply ws|apply wb|refine nU hv ?_
  refine dS ⟨by omega,by omega⟩ λrb hb=>?_;subst hb;rw[ak];apply gI iX gx
  repeat' first|apply ws|apply wb|first|refine nU hv ?_|refine dU (by decide) ?_
  refine ue ⟨by omega,by omega⟩ ?_;rw[ak];apply gI iX gy
  repeat' first|apply ws|apply wb|first|refine MX ?_|refine zf hv ?_
  unfold jz.j1;simp only[Mv h0 (by omega:j<1099511627776)];apply ga<;>intro g2
  ·have hb:=g2
   repeat' first|apply ws|apply wb|first|refine nU hv ?_|refine dU (by decide) ?_
   refine ue ⟨by omega,by omega⟩ ?_;rw[ak];apply gI iX gy
   repeat' first|apply ws|apply wb|first|refine nU hv ?_|refine dU (by decide) ?_
   refine ue ⟨by omega,by omega⟩ ?_;rw[ak];apply gI iX gx;refine ue ⟨by omega,by omega⟩ ?_;rw[ak];refine dU rfl (rN iX (by omega) (qQ _) ?_);refine ue ⟨by omega,by omega⟩ ?_;rw[ak];refine dU rfl (rN iX (by simp;omega) (qQ _) ?_);refine dU (by decide) λw3 h3=>⟨⟨par j,Xg m j (par j) x y,by omega,by rw[Pv];exact Mm,(Lk gx gy kJ).trans hp,hum.step h0 gx gy hb,rfl,h3⟩,by show(par j:Int).toNat<(j:Int).toNat;unfold par;omega⟩
  ·refine hk m (hum.heap (.inr ?_)) hp;intro a b ha rH;rw[gx] at ha;rw[gy] at rH;cases ha;cases rH
   exact g2
 ·have h0:j=0:=by omega
  unfold jz.j1;apply jU;exact hk m (hum.heap (.inl h0)) hp
def ab3{i:Nat}(hv:cs[o]?=some (.l b h.length c))(hl:h.length<100000)(hi:i<h.length)(hd:HD h i\/Kids h i)
 (hk:∀h',(vY h'\/h'=h/\Kids h i)->h'.Perm h->T W (Sep.pt r cs::own b h.length c 4 (h'.flatMap gR)::R) (K (.tuple ⟨[]⟩))):
 T W (Sep.pt r cs::own b h.length c 4 (h.flatMap gR)::R) (fN (some ⟨r,o,none⟩) (i:Int) K):=by
 unfold fN;intro w hs;refine⟨λvs w=>∃(j:Nat)(m:List Item),j<h.length/\m.length=h.length/\m.Perm h/\(HD m j\/m=h/\j=i/\Kids h i)/\vs=[.i (j:Int)]/\St W w (Sep.pt r cs::own b h.length c 4 (m.flatMap gR)::R),
  λvs _=>match vs with|[.int _ j]=>h.length-j.toNat|_=>0,⟨i,h,hi,rfl,cf.refl _,hd.imp id λhh=>⟨rfl,rfl,hh⟩,rfl,hs⟩,?_⟩
 rintro n2 w2 ⟨j,m,hj,Mm,hp,Kc,e,hs⟩;cases e
 have e1:aa.wrap (aa.wrap (2* (j:Int))+1)=((2* j+1:Nat):Int):=by
  have:aa.wrap (2* (j:Int))=2* j:=aX (by omega);rw[this,aX (by omega)];omega
 have e2:aa.wrap (aa.wrap (2* (j:Int))+2)=((2* j+2:Nat):Int):=by
  have:aa.wrap (2* (j:Int))=2* j:=aX (by omega);rw[this,aX (by omega)];omega
 rw[e1];refine⟨λvs w=>∃(k d:Nat),2* j+1<=d/\d<=2* j+3/\(k=j\/0<k/\par k=j/\∃x y,m[k]?=some x/\m[j]?=some y/\bf x y)/\(∀q,0<q->par q=j->q<d->NB m q k)/\k<h.length/\
    vs=[.i (j:Int),.i (k:Int),.i (d:Int)]/\St W w (Sep.pt r cs::own b h.length c 4 (m.flatMap gR)::R),
  mq 2 (2* j+3),⟨j,2* j+1,aI _,by omega,.inl rfl,(λq h0 hq cn=>by unfold par at hq;omega),hj,rfl,hs⟩,?_⟩
 rintro n5 n6 n7 w5 ⟨k,d,hd1,WO,hkk,Ax,hkl,e,hs⟩;cases e
 refine T.at ?_ hs;rw[e2];have out:(∀q,0<q->par q=j->NB m q k)->T W (Sep.pt r cs::own b h.length c 4 (m.flatMap gR)::R) (fN.j1 K (some ⟨r,o,none⟩) (λvs w=>∃(j:Nat)(m:List Item),j<h.length/\m.length=h.length/\m.Perm h/\(HD m j\/m=h/\j=i/\Kids h i)/\vs=[.i (j:Int)]/\St W w (Sep.pt r cs::own b h.length c 4 (m.flatMap gR)::R))
                      (λvs _=>match vs with|[.int _ j]=>h.length-j.toNat|_=>0) (j:Int) w2 (j:Int) (k:Int)):=by
  intro fI;unfold fN.j1;apply dz<;>intro g1
  ·have:k=j:=by have:(k:Int)=j:=by simpa using g1
                omega
   subst this;refine hk m ?_ hp;rcases Kc with Kc|⟨hm,Mp,hki⟩
   ·exact .inl (Kc.heap fI)
   ·exact .inr ⟨hm,hki⟩
  ·have kJ:k≠j:=by
    intro hh;subst hh;simp at g1
   obtain⟨h0,Ye,x,y,gx,gy,hb⟩:=hkk.resolve_left kJ;have afA:HD m j:=by
    rcases Kc with Kc|⟨hm,Mp,hki⟩
    ·exact Kc
    ·subst hm;subst Mp;exact aT hb (hki k h0 Ye x y gx gy)
   repeat' first|apply ws|apply wb|refine nU hv ?_
   refine dS ⟨by omega,by omega⟩ λrb rH=>?_;subst rH;rw[ak];apply gI iX gx
   repeat' first|apply ws|apply wb|refine nU hv ?_
   refine ue ⟨by omega,by omega⟩ ?_;rw[ak];apply gI iX gy;refine ue ⟨by omega,by omega⟩ ?_;rw[ak];refine dU rfl (rN iX (by omega) (qQ _) ?_);refine ue ⟨by omega,by omega⟩ ?_;rw[ak];refine dU rfl (rN iX (by simp;omega) (qQ _) ?_);refine λw3 h3=>⟨⟨k,Xg m j k y x,hkl,by rw[Pv];exact Mm,(Lk gy gx (λhh=>kJ hh.symm)).trans hp,.inl (afA.step Ye h0 gy gx hb fI),rfl,h3⟩,by show h.length-(k:Int).toNat<h.length-(j:Int).toNat;unfold par at Ye;omega⟩
 apply ga<;>intro g1
 ·have hle:d<=2* j+2:=by omega
  repeat' first|apply ws|apply wb|refine nU hv ?_
  unfold fN.j2;apply ga<;>intro g2
  ·have cn:d<h.length:=by omega
   have gx:=aj (show d<m.length by omega);have gy:=aj (show k<m.length by omega);generalize m[d]=x at gx;generalize hmk:m[k]'(by omega)=y at gy;have hpd:par d=j:=by unfold par;omega
   have e5:=nI d
   repeat' first|apply ws|apply wb|refine nU hv ?_
   refine dS ⟨by omega,by omega⟩ λrb hb=>?_;subst hb;rw[ak];apply gI iX gx
   repeat' first|apply ws|apply wb|refine nU hv ?_
   refine ue ⟨by omega,by omega⟩ ?_;rw[ak];apply gI iX gy
   repeat' first|apply ws|apply wb|first|refine MX ?_|refine zf hv ?_
   rw[e5];apply ga<;>intro g3
   ·have hb:=g3;refine λw3 h3=>⟨⟨d,d+1,by omega,by omega,.inr ⟨by omega,hpd,x,?_⟩,λq h0 hq vE a b' ha xa=>?_,cn,rfl,h3⟩,dn (by omega)⟩
    ·rcases hkk with rfl|⟨h0,Ye,x1,y1,q1,q2,q3⟩
     ·exact⟨y,gx,gy,hb⟩
     ·rw[gy] at q1;cases q1
      exact⟨y1,gx,q2,MW hb q3⟩
    ·rw[gx] at xa;cases xa
     by_cases hqd:q=d
     ·subst hqd;rw[gx] at ha;cases ha;exact OW x
     ·exact Uv (Ax q h0 hq (by omega) a y ha gy) hb
   ·have hb:=g3;refine λw3 h3=>⟨⟨k,d+1,by omega,by omega,hkk,λq h0 hq vE=>?_,hkl,rfl,h3⟩,dn (by omega)⟩;by_cases hqd:q=d
    ·subst hqd;intro a b' ha xa;rw[gx] at ha;rw[gy] at xa;cases ha;cases xa;exact hb
    ·exact Ax q h0 hq (by omega)
  ·have iZ:h.length<=d:=by omega
   refine out λq h0 hq a b' ha xa=>?_;have:=(ar.1 ha).1;exact Ax q h0 hq (by omega) a b' ha xa
 ·have Qv:2* j+2<d:=by omega
  unfold fN.j2;apply jU;exact out λq h0 hq=>Ax q h0 hq (by unfold par at hq;omega)
def Rx{z x:Item}{i n:Nat}(hl:h.length=n+1)(hi:i<n)(hz:h[n]?=some z)(hx:h[i]?=some x):(x::(h.set i z).take n).Perm h:=by
 have h1:=zX (y:=z) hx;have h2:h.set i z=(h.set i z).take n++[z]:=by
  conv=>lhs;rw[<-dy n (h.set i z)]
  congr 1
  have:(h.set i z)[n]?=some z:=by rw[dk,ag (by omega)];exact hz
  rw[gh (by simp;omega),gG (by simp;omega)];rw[aj (by simp;omega)] at this;rw[bA.inj this]
 rw[h2] at h1;have h3:(x::((h.set i z).take n++[z])).Perm (z::x::(h.set i z).take n):=((bG (l₁:=(h.set i z).take n) (l₂:=[z])).cons x).trans (cf.swap _ _ _);exact(List.perm_cons z).1 (h3.symm.trans h1)
def aaJ{α:Type}{r n c e o:Nat}{l:List α}{x:α}{g:α->LV}{f:HP->LH}[i:wX (ah r) n c L e (l.flatMap g) f](hf:∀x,(g x).length=e)(hx:l[o]?=some x)(h:T W L X):T W L (kp ⟨r,o* e,none⟩ (g x) X):=λw hs=>by
 obtain⟨k,hk,_⟩:=i.at_;exact⟨Au hs hk (ry hf l o x hx),h w hs⟩
def T.Xu{A B C D:HP}(h:T W (A::B::C::D::R) X):T W (C::D::A::B::R) X:=T.perm h (bG (l₁:=[C,D]) (l₂:=[A,B])|>.append_right R)
def T.ZS{A B C:HP}(h:T W (A::B::C::R) X):T W (C::A::B::R) X:=T.perm h (bG (l₁:=[C]) (l₂:=[A,B])|>.append_right R)
def T.ZT{A B C:HP}(h:T W (A::B::C::R) X):T W (B::C::A::R) X:=T.perm h (bG (l₁:=[B,C]) (l₂:=[A])|>.append_right R)
def aaC{i:Nat}{x:Item}(hv:cs[o]?=some (.l b h.length c))(hl:h.length<100000)(hx:h[i]?=some x)(hh:vY h)
 (hk:∀h',vY h'->(x::h').Perm h->T W (Sep.pt r (cs.set o (.l b h'.length c))::own b h'.length c 4 (h'.flatMap gR)::R) (K (.agg ⟨gR x⟩))):
 T W (Sep.pt r cs::own b h.length c 4 (h.flatMap gR)::R) (qO (some ⟨r,o,none⟩) (i:Int) K):=by
 have hi:=(ar.1 hx).1;obtain⟨n,hn⟩:∃n,h.length=n+1:=⟨h.length-1,by omega⟩;have gz:=aj (show n<h.length by omega);generalize h[n]=z at gz;have e1:aa.wrap ((h.length:Int) -1)=(n:Int):=by rw[aX (by omega)];omega
 unfold qO
 repeat' first|apply ws;intros|apply wb|refine nU hv ?_
 refine dS ⟨by omega,by omega⟩ λrb hb=>?_;subst hb;rw[ak];apply gI iX hx
 repeat' first|apply ws;intros|apply wb|first|refine nU hv ?_|refine zf hv ?_
 apply aaJ iX hx
 repeat' first|apply ws|apply wb|first|refine nU hv ?_|refine zf hv ?_
 rw[e1];refine ue ⟨by omega,by omega⟩ ?_;rw[ak];apply gI iX gz;refine ue ⟨by omega,by omega⟩ ?_;rw[ak];refine dU rfl (rN iX hi (qQ _) ?_)
 repeat' first|apply ws|apply wb|first|refine nU hv ?_|refine zf hv ?_
 refine rG (b:=ah rb) λvX _=>?_;refine AS (by omega) ?_;refine BG (b:=ah rb) (i:=n) iX (by omega) ?_
 repeat' first|apply ws|apply wb|refine JD hv rfl ?_
 have DR:=uw (v:=.l (ah rb) n c) hv;apply ga<;>intro g1
 ·have cn:i<n:=by omega
  have hp:=Rx hn cn gz hx;have Mm:((h.set i z).take n).length=n:=by simp;omega
  rename_i r1 r2;apply T.Xu;have key:HD ((h.set i z).take n) i\/HU ((h.set i z).take n) i/\Kids ((h.set i z).take n) i:=by
   by_cases h0:i=0
   ·exact .inl (Po hh hn cn gz (.inl h0))
   ·have SW:par i<h.length:=by unfold par;omega
    have gy:=aj SW;generalize h[par i]=y at gy;by_cases hb:bf z y
    ·exact .inr (Xb hh hn cn gz (by omega) gy hb)
    ·refine .inl (Po hh hn cn gz (.inr ?_));intro a b' ha rH;have Nl:par i≠i:=by unfold par;omega
     have hpn:par i<n:=by unfold par;omega
     rw[s8,ai cn,dk,ai rfl,ai hi] at ha;rw[s8,ai hpn,dk,ag (λh=>Nl h.symm),gy] at rH;cases ha;cases rH;exact hb
  generalize (h.set i z).take n=m at hp Mm key;subst Mm;refine ab3 DR (by omega) cn (key.imp id (·.2)) λm2 KX GB=>?_;apply ws;have Yj:=GB.length_eq;rw[<-Yj];have Qp:=uw (v:=.l (ah rb) m2.length c) hv;have hu2:HU m2 i:=by
   rcases KX with KX|⟨rfl,hki⟩
   ·exact KX.hu i
   ·rcases key with k1|k1
    ·exact(k1.heap hki).hu i
    ·exact k1.1
  refine acC Qp (by omega) (by omega) hu2 λm3 hm3 hp3=>?_;apply ws;have WI:=hp3.length_eq;have:=hk m3 hm3 ((hp3.trans GB).cons x|>.trans hp);rw[WI] at this;exact T.Xu (T.drop (T.drop this))
 ·have hie:i=n:=by omega
  subst hie;apply ws;have hm:(h.set i z).take i=h.take i:=by rw[List.take_set_of_le (aI _)]
  rw[hm];have Mm:(h.take i).length=i:=by simp;omega
  have hh':vY (h.take i):=λj h0 a b' ha rH=>by
   rw[s8] at ha rH;split at ha
   ·split at rH
    ·exact hh j h0 a b' ha rH
    ·cases rH
   ·cases ha
  have:=hk (h.take i) hh' (by
   conv=>rhs;rw[<-dy i h]
   have:h.drop i=[x]:=by
    rw[gh hi,gG (by omega)]
    rw[aj hi] at hx
    rw[bA.inj hx]
   rw[this]
   exact bG (l₁:=[x]) (l₂:=h.take i))
  rw[Mm] at this;exact T.dp this
def aa8{x:Item}(hv:cs[o]?=some (.l b h.length c))(hl:h.length<10000)(hh:vY h)
 (hk:∀b' c' h',vY h'->h'.Perm (h++[x])->T W (Sep.pt r (cs.set o (.l b' h'.length c'))::own b' h'.length c' 4 (h'.flatMap gR)::R) (K (.tuple ⟨[]⟩))):
 T W (Sep.pt r cs::own b h.length c 4 (h.flatMap gR)::R) (mr (some ⟨r,o,none⟩) (gR x) K):=by
 unfold mr;refine uF λr1=>aaN ?_
 repeat' first|apply ws;intros|apply wb|first|refine nU hv ?_|refine zf hv ?_
 refine kZ (x:=x) (by simp) rfl rfl (by omega) (by omega) (qQ _) λb' c'=>?_
 repeat' first|apply ws|apply wb|first|refine JD hv rfl ?_|refine nU (uw hv) ?_
 rename_i r2;have e1:aa.wrap (((h.length+1:Nat):Int) -1)=(h.length:Int):=by rw[aX (by omega)];omega
 rw[e1];apply T.Xu;have hu:HU (h++[x]) h.length:=by
  refine⟨λj h0 hj a b' ha rH=>?_,λj h0 hp hi a b' ha rH=>?_⟩
  ·have cn:=(ar.1 ha).1;simp at cn;rw[ch (by omega)] at ha;rw[ch (by unfold par;omega)] at rH;exact hh j h0 a b' ha rH
  ·have cn:=(ar.1 ha).1;simp at cn;unfold par at hp;omega
 have DR:=uw (v:=.l b' (h.length+1) c') hv;have Np:(h++[x]).length=h.length+1:=by simp
 rw[<-Np] at DR⊢;refine acC DR (by omega) (by simp) hu λm hm hp=>?_;apply ws;have:=hk b' c' m hm hp;rw[hp.length_eq] at this;exact T.Xu (T.drop (T.drop this))
def XJ{s:Int}(hv:cs[o]?=some (.l b h.length c))(hl:h.length<10000)(hh:vY h)
 (h1:∀x m,x.ay=s->vY m->(x::m).Perm h->T W (Sep.pt r (cs.set o (.l b m.length c))::own b m.length c 4 (m.flatMap gR)::R) (K (.b true)))
 (h0:(∀x∈h,x.ay≠s)->T W (Sep.pt r cs::own b h.length c 4 (h.flatMap gR)::R) (K (.b false))):
 T W (Sep.pt r cs::own b h.length c 4 (h.flatMap gR)::R) (mX (some ⟨r,o,none⟩) s K):=by
 unfold mX;apply zg
 repeat' first|apply ws|apply wb|refine nU hv ?_
 intro w hs;refine⟨λvs w=>∃(i:Nat),i<=h.length/\(∀j x,j<i->h[j]?=some x->x.ay≠s)/\vs=[.b false,.l b h.length c,.i (h.length:Int),.i (i:Int)]/\St W w (Sep.pt r cs::own b h.length c 4 (h.flatMap gR)::R),
  mq 3 h.length,⟨0,aF _,(λj x hj=>by omega),rfl,hs⟩,?_⟩
 rintro b1 ov mo qf n2 n3 w2 ⟨i,hi,Hp,e,hs⟩;cases e
 refine T.at ?_ hs;apply ga<;>intro g1
 ·have cn:i<h.length:=by omega
  have gx:=aj cn;generalize h[i]=x at gx;have e5:=nI i;refine dS ⟨by omega,by omega⟩ λrb hb=>?_;subst hb;rw[ak];apply gI iX gx;apply ws;intros;rename_i r1;rw[e5];apply dz<;>intro g2
  ·apply T.ZS;refine aaC hv (by omega) gx hh λm hm hp=>?_;apply ws;refine T.ZT (T.drop ?_);exact h1 x m (by simpa using g2) hm hp
  ·refine T.drop λw3 h3=>⟨⟨i+1,cn,λj y hj hy=>?_,rfl,h3⟩,dn (by omega)⟩;by_cases Mp:j=i
   ·subst Mp;rw[gx] at hy;cases hy;simpa using g2
   ·exact Hp j y (by omega) hy
 ·have iZ:i=h.length:=by omega
  refine h0 λx hx=>?_;obtain⟨j,hj⟩:=qW hx;exact Hp j x (by have:=(ar.1 hj).1;omega) hj
end
class W0{α β:Type}(P:α->HP)(Q:β->HP)(L:LH)(x:outParam α)(y:outParam β)(F:outParam (α->β->LH)):Prop where
 at_:∃R:LH,L.Perm (P x::Q y::R)/\∀x' y',(F x' y').Perm (P x'::Q y'::R)
section
variable {α β:Type} {P:α->HP} {Q:β->HP} {L:LH} {x:α} {y:β}
def Lc.perm{f:α->LH}(h:Lc P L x f):∃R:LH,L.Perm (P x::R)/\∀x',(f x').Perm (P x'::R):=by
 obtain⟨k,h1,h2⟩:=h.at_;exact⟨L.eraseIdx k,tW h1,λy=>by rw[h2];exact(set_perm h1).symm⟩
instance(priority:=low) W0.tail{A:HP}{F:α->β->LH}[h:W0 P Q L x y F]:W0 P Q (A::L) x y (λa b=>A::F a b):=by
 obtain⟨R,h1,h2⟩:=h.at_;exact⟨A::R,(h1.cons A).trans ((cf.swap _ _ _).trans ((cf.swap _ _ _).cons _)),λa b=>((h2 a b).cons A).trans ((cf.swap _ _ _).trans ((cf.swap _ _ _).cons _))⟩
instance W0.aib{f:α->LH}[h:Lc P L x f]:W0 P Q (Q y::L) x y (λa b=>Q b::f a):=by
 obtain⟨R,h1,h2⟩:=h.perm;exact⟨R,(h1.cons _).trans (cf.swap _ _ _),λa b=>((h2 a).cons _).trans (cf.swap _ _ _)⟩
def EE{W:World}{X:WK}{F:α->β->LH}[i:W0 P Q L x y F](h:∀R,(∀M a b Y,T W (M++F a b) Y->T W (M++P a::Q b::R) Y)->T W (P x::Q y::R) X):T W L X:=by
 obtain⟨R,h1,h2⟩:=i.at_;exact T.perm (h R λM a b Y hy=>T.perm hy ((h2 a b).symm.append_left M)) h1
end
def St.tC{W w:World}:∀(M R:LH),St W w (wM M::R)->St W w (M++R)
 |[],R,h=>h.drop
 |A::M,R,h=>(St.tC M (A::R) (h.split.perm (cf.swap _ _ _))).perm iM
def St.rP{W w:World}:∀(M R:LH),St W w (M++R)->St W w (wM M::R)
 |[],R,h=>h.push trivial
 |A::M,R,h=>St.join ((St.rP M (A::R) (h.perm iM.symm)).perm (cf.swap _ _ _))
structure Core where
 la:Nat
 lk:Nat
 ti:Nat
 tn:Nat
 vs:LV
 dJ:List oG
 ends:List Item
 clock:Int
 ay:Int
def jq(q:Core)(b1:OA)(c1:Nat)(b2:OA)(c2:Nat)(b3:OA)(n3 c3:Nat):LV:=
 [.l b1 q.vs.length c1,.p (some (ad q.la 0)),.p (some (ad q.lk 0)),.p (some (ad q.ti 0)),.p (some (ad q.tn 0)),.l b2 q.dJ.length c2,.l b3 n3 c3,.i q.clock,.i q.ay]
def coreS(p:Nat)(q:Core)(b1:OA)(c1:Nat)(b2:OA)(c2:Nat)(b3:OA)(c3:Nat)(h:List Item):LH:=
 [Sep.pt p (jq q b1 c1 b2 c2 b3 h.length c3),own b1 q.vs.length c1 1 q.vs,own b2 q.dJ.length c2 2 (q.dJ.flatMap pO),own b3 h.length c3 4 (h.flatMap gR)]
def gY(p:Nat)(q:Core):HP:=
 S8 λz:(OA×Nat)×(OA×Nat)×(OA×Nat)×List Item=>G9 (vY z.2.2.2/\z.2.2.2.Perm q.ends) (wM (coreS p q z.1.1 z.1.2 z.2.1.1 z.2.1.2 z.2.2.1.1 z.2.2.1.2 z.2.2.2))
def zM(q:Core)(o:Nat):Option Value:=match o with
 |1=>some (.p (some (ad q.la 0)))
 |2=>some (.p (some (ad q.lk 0)))
 |3=>some (.p (some (ad q.ti 0)))
 |4=>some (.p (some (ad q.tn 0)))
 |7=>some (.i q.clock)
 |8=>some (.i q.ay)
 |_=>none
section
variable {W:World} {L:LH} {K:VK} {X:WK} {p o:Nat} {q:Core} {f:Core->LH} {v:Value}
def Jp{R:LH}(hx:∀b1 c1 b2 c2 b3 c3 h,vY h->h.Perm q.ends->T W (Sep.pt p (jq q b1 c1 b2 c2 b3 h.length c3)::own b1 q.vs.length c1 1 q.vs::own b2 q.dJ.length c2 2 (q.dJ.flatMap pO)::own b3 h.length c3 4 (h.flatMap gR)::R) X):T W (gY p q::R) X:=λw hs=>by
 obtain⟨⟨⟨b1,c1⟩,⟨b2,c2⟩,⟨b3,c3⟩,hp⟩,hs⟩:=hs.ex;obtain⟨⟨h1,h2⟩,hs⟩:=hs.and;exact hx b1 c1 b2 c2 b3 c3 hp h1 h2 w (St.tC _ _ hs)
def Bg{R:LH}{b1:OA}{c1:Nat}{b2:OA}{c2:Nat}{b3:OA}{c3:Nat}{h:List Item}(h1:vY h)(h2:h.Perm q.ends)(hx:T W (gY p q::R) X):T W (Sep.pt p (jq q b1 c1 b2 c2 b3 h.length c3)::own b1 q.vs.length c1 1 q.vs::own b2 q.dJ.length c2 2 (q.dJ.flatMap pO)::own b3 h.length c3 4 (h.flatMap gR)::R) X:=λw hs=>
 hx w (St.rA ((b1,c1),(b2,c2),(b3,c3),h) (St.and_intro ⟨h1,h2⟩ (St.rP _ _ hs)))
def ED{α:Type}{P:α->HP}{a:α}{f:α->LH}[i:Lc P L a f](h:∀R,(∀M y Y,T W (M++f y) Y->T W (M++P y::R) Y)->T W (P a::R) X):T W L X:=by
 obtain⟨R,h1,h2⟩:=i.perm;exact T.perm (h R λM y Y hy=>T.perm hy ((h2 y).symm.append_left M)) h1
def T.JR{R:LH}{A B C:HP}(h:T W (A::C::B::R) X):T W (A::B::C::R) X:=T.perm h ((cf.swap _ _ _).cons _)
def T.N1{R:LH}{A B C D:HP}(h:T W (A::D::B::C::R) X):T W (A::B::C::D::R) X:=T.perm h ((bG (l₁:=[B,C]) (l₂:=[D])|>.append_right R).cons _)
def T.FQ{R:LH}{A B C D:HP}(h:T W (A::B::C::D::R) X):T W (A::D::B::C::R) X:=T.perm h ((bG (l₁:=[D]) (l₂:=[B,C])|>.append_right R).cons _)
def q6[i:Lc (gY p) L q f](hx:∀b1 c1 b2 c2 b3 c3 h R,vY h->h.Perm q.ends->
 (∀M q' b1 c1 b2 c2 b3 c3 h Y,vY h->h.Perm q'.ends->T W (M++f q') Y->T W (M++Sep.pt p (jq q' b1 c1 b2 c2 b3 h.length c3)::own b1 q'.vs.length c1 1 q'.vs::own b2 q'.dJ.length c2 2 (q'.dJ.flatMap pO)::own b3 h.length c3 4 (h.flatMap gR)::R) Y)->T W (Sep.pt p (jq q b1 c1 b2 c2 b3 h.length c3)::own b1 q.vs.length c1 1 q.vs::own b2 q.dJ.length c2 2 (q.dJ.flatMap pO)::own b3 h.length c3 4 (h.flatMap gR)::R) X):T W L X:=
 ED (P:=gY p) λR hc=>Jp λb1 c1 b2 c2 b3 c3 h h1 h2=>hx b1 c1 b2 c2 b3 c3 h R h1 h2 λM q' b1 c1 b2 c2 b3 c3 h Y g1 g2 hy=>
  T.perm (Bg (R:=M++R) g1 g2 (T.perm (hc M q' Y hy) (iM.symm))) (by
   have:=bG (l₁:=M) (l₂:=[Sep.pt p (jq q' b1 c1 b2 c2 b3 h.length c3),own b1 q'.vs.length c1 1 q'.vs,own b2 q'.dJ.length c2 2 (q'.dJ.flatMap pO),own b3 h.length c3 4 (h.flatMap gR)])|>.append_right R
   simpa using this)
def Cr{b1:OA}{c1:Nat}{b2:OA}{c2:Nat}{b3:OA}{c3 n:Nat}(hv:zM q o=some v):(jq q b1 c1 b2 c2 b3 n c3)[o]?=some v:=by
 unfold zM at hv;split at hv<;>first|exact hv|cases hv
def acN[i:Lc (gY p) L q f](hv:zM q o=some v)(h:T W L (K v)):T W L (ld ⟨p,o,none⟩ K):=by
 have hL:f q=L:=i.same;refine q6 (p:=p) λb1 c1 b2 c2 b3 c3 hp R h1 h2 hc=>?_;apply nU (r:=p) (Cr hv);exact hc [] q _ _ _ _ _ _ _ _ h1 h2 (by rw[hL];exact h)
def acO[i:Lc (gY p) L q f](hv:zM q o=some v)(h:T W L X):T W L (kp ⟨p,o,none⟩ [v] X):=by
 have hL:f q=L:=i.same;refine q6 (p:=p) λb1 c1 b2 c2 b3 c3 hp R h1 h2 hc=>?_;apply zf (r:=p) (Cr hv);exact hc [] q _ _ _ _ _ _ _ _ h1 h2 (by rw[hL];exact h)
class Gc(q:Core)(o:Nat)(v:outParam Value):Prop where
 is:zM q o=some v
instance:Gc q 1 (.p (some (ad q.la 0))):=⟨rfl⟩
instance:Gc q 2 (.p (some (ad q.lk 0))):=⟨rfl⟩
instance:Gc q 3 (.p (some (ad q.ti 0))):=⟨rfl⟩
instance:Gc q 4 (.p (some (ad q.tn 0))):=⟨rfl⟩
instance:Gc q 7 (.i q.clock):=⟨rfl⟩
instance:Gc q 8 (.i q.ay):=⟨rfl⟩
instance[i:Lc (gY p) L q f][g:Gc q o v]:Lv L p o v:=⟨λh=>acN (i:=i) g.is h,λh=>acO (i:=i) g.is h⟩
def NN[i:Lc (gY p) L q f]{t:Int}(h:T W (f {q with clock:=t}) X):T W L (st ⟨p,7,none⟩ (.i t) X):=by
 refine q6 (p:=p) λb1 c1 b2 c2 b3 c3 hp R h1 h2 hc=>?_;unfold jq;apply ws;exact hc [] {q with clock:=t} _ _ _ _ _ _ _ _ h1 h2 h
def NM[i:Lc (gY p) L q f]{t:Int}(h:T W (f {q with ay:=t}) X):T W L (st ⟨p,8,none⟩ (.i t) X):=by
 refine q6 (p:=p) λb1 c1 b2 c2 b3 c3 hp R h1 h2 hc=>?_;unfold jq;apply ws;exact hc [] {q with ay:=t} _ _ _ _ _ _ _ _ h1 h2 h
def wY[i:Lc (gY p) L q f](hl:q.vs.length<1000000)(h1v:v.oneCell'=true)(hcv:fE v=[v])(h:T W (f {q with vs:=q.vs++[v]}) (K (.tuple ⟨[]⟩))):T W L (iD (ah p) v K):=by
 refine q6 (p:=p) λb1 c1 b2 c2 b3 c3 hp R h1 h2 hc=>?_;unfold iD jq;rw[hcv];apply ws;intros;refine TP (ys:=[v]) (n:=q.vs.length) (bytes:=8) rfl rfl (by omega) (λu hu=>by simp at hu;rw[hu];exact h1v) (λb' c'=>?_) (by omega);apply ws;have:=hc [] {q with vs:=q.vs++[v]} b' c' b2 c2 b3 c3 hp _ h1 h2 h;unfold jq at this;simp only[av,qt] at this;exact T.drop this
def acm[i:Lc (gY p) L q f](h:T W L (K (.i (q.vs.length:Int)))):T W L (tP (ah p) K):=by
 have hL:f q=L:=i.same;refine q6 (p:=p) λb1 c1 b2 c2 b3 c3 hp R h1 h2 hc=>?_;unfold tP jq;apply ws;exact hc [] q _ _ _ _ _ _ _ _ h1 h2 (by rw[hL];exact h)
def QJ[i:Lc (gY p) L q f]{s a:Int}(hr:tM q.dJ)(hl:q.dJ.length<1099511627)(hs:∀x∈q.dJ,x.1<s)(h:T W (f {q with dJ:=q.dJ++[(s,a)]}) (K (.b true))):T W L (jA (some ⟨p,5,none⟩) s a K):=by
 refine q6 (p:=p) λb1 c1 b2 c2 b3 c3 hp R h1 h2 hc=>?_;apply T.JR;refine aba rfl hr hl hs λb' c'=>?_;apply T.JR;have:=hc [] {q with dJ:=q.dJ++[(s,a)]} b1 c1 b' c' b3 c3 hp _ h1 h2 h;simp only[jq,av,qt] at this;exact this
def VA[i:Lc (gY p) L q f]{s a:Int}{l0:List oG}(hr:tM q.dJ)(hl:q.dJ.length<1099511627)(hs:q.dJ=l0++[(s,a)])(h:T W (f {q with dJ:=l0}) (K (.b true))):T W L (jG (some ⟨p,5,none⟩) s K):=by
 refine q6 (p:=p) λb1 c1 b2 c2 b3 c3 hp R h1 h2 hc=>?_;apply T.JR;refine XO rfl hr hl hs λb' c'=>?_;apply T.JR;exact hc [] {q with dJ:=l0} b1 c1 b' c' b3 c3 hp _ h1 h2 h
def Sr[i:Lc (gY p) L q f]{from_ toX:Int}{An:Bool}(hr:tM q.dJ)(hl:q.dJ.length<100000)
 (h:∀b' c' out,out=(if An then(q8 from_ toX q.dJ).reverse else q8 from_ toX q.dJ)->T W (own b' out.length c' 2 (out.flatMap pO)::L) (K (.l b' out.length c'))):T W L (gu (some ⟨p,5,none⟩) from_ toX An K):=by
 have hL:f q=L:=i.same;refine q6 (p:=p) λb1 c1 b2 c2 b3 c3 hp R h1 h2 hc=>?_;refine Uq (b:=b2) (c:=c2) rfl hr hl λb' c' out ho=>?_;exact hc [_] q b1 c1 b2 c2 b3 c3 hp _ h1 h2 (by rw[hL];exact h b' c' out ho)
def Kr[i:Lc (gY p) L q f]{x:Item}{e':List Item}(hl:q.ends.length<10000)(he:e'.Perm (q.ends++[x]))(h:T W (f {q with ends:=e'}) (K (.tuple ⟨[]⟩))):T W L (mr (some ⟨p,6,none⟩) (gR x) K):=by
 refine q6 (p:=p) λb1 c1 b2 c2 b3 c3 hp R h1 h2 hc=>?_;apply T.N1;refine aa8 rfl (by rw[h2.length_eq];exact hl) h1 λb' c' h' g1 g2=>?_;apply T.FQ;exact hc [] {q with ends:=e'} b1 c1 b2 c2 b' c' h' _ g1 (g2.trans ((h2.append_right _).trans he.symm)) h
def MM[i:Lc (gY p) L q f]{s:Int}(hl:q.ends.length<10000)
 (h1:∀x e',x.ay=s->(x::e').Perm q.ends->T W (f {q with ends:=e'}) (K (.b true)))(h0:(∀x∈q.ends,x.ay≠s)->T W L (K (.b false))):T W L (mX (some ⟨p,6,none⟩) s K):=by
 have hL:f q=L:=i.same;rw[<-hL] at h0;refine q6 (p:=p) λb1 c1 b2 c2 b3 c3 hp R g1 g2 hc=>?_;apply T.N1;refine XJ rfl (by rw[g2.length_eq];exact hl) g1 (λx m hx hm hpm=>?_) (λHp=>?_)
 ·apply T.FQ;exact hc [] {q with ends:=m} b1 c1 b2 c2 b3 c3 m _ hm (cf.refl _) (h1 x m hx (hpm.trans g2))
 ·apply T.FQ;exact hc [] q b1 c1 b2 c2 b3 c3 hp _ g1 g2 (h0 λx hx=>Hp x (g2.mem_iff.2 hx))
end
def jT(a:bP):(aO a).length=14:=rfl
def xo(k:cr):(bM k).length=33:=rfl
section
variable {x1 x2 x3 x4 x5 x6 x7 x8 x9 Fi Fh Fg Ff Jx NC NA ZC ZB x19 x20 x21 x22 x23 x24 x25 x26 x27 x28 x29 x30 x31 x32 x33:Value} {k k':cr} {i:Int} {m t:cH}
def zK:cr:=⟨zT,zT,0⟩
instance:Wr [x1,x2,x3,x4,x5,x6,x7,x8,x9,Fi,Fh,Fg,Ff,Jx,NC,NA,ZC,ZB,x19,x20,x21,x22,x23,x24,x25,x26,x27,x28,x29,x30,x31,x32,x33] 0 (bM k) (bM k):=⟨rfl,aI _,nj k⟩
instance:Wr (bM k) 0 (bM k') (bM k'):=⟨rfl,aI _,nj k'⟩
instance:Wr [x1,x2,x3,x4,x5,x6,x7,x8,x9,Fi,Fh,Fg,Ff,Jx,NC,NA,ZC,ZB,x19,x20,x21,x22,x23,x24,x25,x26,x27,x28,x29,x30,x31,x32,x33] 0 [.u 0,.u 0,.u 0,.u 0,.u 0,.u 0,.u 0,.u 0,.u 0,.u 0,.i 0,.i 0,.i 0,.i 0,.i 0,.i 0,.u 0,.u 0,.u 0,.u 0,.u 0,.u 0,.u 0,.u 0,.u 0,.u 0,.i 0,.i 0,.i 0,.i 0,.i 0,.i 0,.i 0] (bM zK):=⟨rfl,aI _,nj zK⟩
instance:Wr (bM k) 32 [.i i] (bM {k with fate:=i}):=⟨rfl,by show 33<=33;decide,λv h=>by simp at h;subst h;rfl⟩
instance:Wr (bM k) 30 [.i i] (bM {k with move:={k.move with ay:=i}}):=⟨rfl,by show 31<=33;decide,λv h=>by simp at h;subst h;rfl⟩
instance:Wr (bM k) 31 [.i i] (bM {k with move:={k.move with iE:=i}}):=⟨rfl,by show 32<=33;decide,λv h=>by simp at h;subst h;rfl⟩
instance:Sub (bM k) 16 2 (nm k.move.id):=⟨zh rfl rfl⟩
instance:Wr [x1,x2,x3,x4,x5,x6,x7,x8,x9,Fi,Fh,Fg,Ff,Jx,NC,NA,ZC,ZB,x19,x20,x21,x22,x23,x24,x25,x26,x27,x28,x29,x30,x31,x32,x33] 0 (aN m++(aN t++[.i i])) (bM ⟨m,t,i⟩):=⟨rfl,aI _,nj ⟨m,t,i⟩⟩
end
class WY(M L:LH):Prop where
 is:M.Sublist L
instance{L:LH}:WY L L:=⟨bm.refl _⟩
instance(priority:=low){M L:LH}{A:HP}[h:WY M L]:WY M (A::L):=⟨h.is.cons A⟩
instance{M L:LH}{A:HP}[h:WY M L]:WY (A::M) (A::L):=⟨h.is.cons_cons A⟩
instance{R L:LH}[h:WY R L]:WY ([]++R) L:=⟨h.is⟩
instance{M R L:LH}{A:HP}[h:WY (A::(M++R)) L]:WY (A::M++R) L:=⟨h.is⟩
def qo{M L:LH}[h:WY M L]:M.Sublist L:=h.is
def T.sub{W:World}{L M:LH}{X:WK}(h:T W M X)(s:M.Sublist L):T W L X:=by
 obtain⟨D,hD⟩:=s.exists_perm_append;have key:∀(D:LH),T W (D++M) X:=λD=>by
  induction D with
  |nil=>exact h
  |cons A D ih=>exact T.drop ih
 exact T.perm (key D) (hD.trans bG)
def tq{α:Type}(g:α->LV)(e l:Nat)(x:Nat×List α):HP:=
 S8 λz:OA×Nat=>wM [Sep.pt l [.l z.1 x.2.length z.2,.p (some (ad x.1 0))],own z.1 x.2.length z.2 e (x.2.flatMap g)]
def sw{W:World}{L:LH}{α:Type}{b b':OA}{n c m c1 e bytes:Nat}{zero:LV}{l0 l1:List α}{g:α->LV}{f f':HP->LH}{K:OA->Nat->Nat->WK}[i:wX b n c L e (l0.flatMap g) f][j:wX b' m c1 L e (l1.flatMap g) f'](hg:∀x,(g x).length=e)(hz:zero.length=e)
 (hb:(n+m)* bytes<=140737488355328/\n+m<=9223372036854775807)(h1:∀x,∀v∈g x,v.oneCell'=true)(h:∀b2 c2,T W (f (own b2 (n+m) c2 e ((l0++l1).flatMap g))) (K b2 (n+m) c2)):T W L (iP e bytes zero b n c b' m K):=λw hs=>by
 obtain⟨k,hk,e1⟩:=i.at_;obtain⟨k2,td,_⟩:=j.at_;obtain⟨A4,pq⟩:=QW (m:=m) hs td;refine vh hs hk A4 pq hz hb.1 hb.2 (λv hv=>?_) λb2 c2 w' h'=>h b2 c2 w' (by rw[e1,gj];exact h');obtain⟨x,_,hx⟩:=List.mem_flatMap.1 hv;exact h1 x v hx
section
variable {W:World} {L R:LH} {K:VK} {X:WK} {α:Type} {g:α->LV} {e l p:Nat} {items:List α} {f:Nat×List α->LH}
def sE(h:∀b c,T W (Sep.pt l [.l b items.length c,.p (some (ad p 0))]::own b items.length c e (items.flatMap g)::R) X):T W (tq g e l (p,items)::R) X:=λw hs=>by
 obtain⟨⟨b,c⟩,hs⟩:=hs.ex;exact h b c w (St.tC _ _ hs)
def u7{b:OA}{n c:Nat}(hn:n=items.length)(h:T W (tq g e l (p,items)::R) X):T W (Sep.pt l [.l b n c,.p (some (ad p 0))]::own b n c e (items.flatMap g)::R) X:=λw hs=>by
 subst hn;exact h w (St.rA (b,c) (St.rP _ _ hs))
def yf{M:LH}{b:OA}{n c:Nat}(hn:n=items.length)(h:T W (M++tq g e l (p,items)::R) X):T W (M++Sep.pt l [.l b n c,.p (some (ad p 0))]::own b n c e (items.flatMap g)::R) X:=
 T.perm (u7 (g:=g) (e:=e) (l:=l) (p:=p) (R:=M++R) hn (T.perm h iM.symm)) (by
  have:=bG (l₁:=M) (l₂:=[Sep.pt l [.l b n c,.p (some (ad p 0))],own b n c e (items.flatMap g)])|>.append_right R
  simpa using this)
def Ik[i:Lc (tq g e l) L (p,items) f](h:∀b c R,(∀M b' n' c' Gu Y,n'=Gu.length->T W (M++f (p,Gu)) Y->T W (M++Sep.pt l [.l b' n' c',.p (some (ad p 0))]::own b' n' c' e (Gu.flatMap g)::R) Y)->
 T W (Sep.pt l [.l b items.length c,.p (some (ad p 0))]::own b items.length c e (items.flatMap g)::R) X):T W L X:=
 ED (P:=tq g e l) λR hc=>sE λb c=>h b c R λM b' n' c' Gu Y hn hy=>
  T.perm (u7 (g:=g) (e:=e) (l:=l) (p:=p) (R:=M++R) hn (T.perm (hc M _ Y hy) iM.symm)) (by
   have:=bG (l₁:=M) (l₂:=[Sep.pt l [.l b' n' c',.p (some (ad p 0))],own b' n' c' e (Gu.flatMap g)])|>.append_right R
   simpa using this)
end
section
variable {W:World} {L R:LH} {K:VK} {X:WK} {l p:Nat} {items:List bP} {f:Nat×List bP->LH} {F:Nat×List bP->Core->LH} {q:Core} {x y:bP}
def Pb[i:Lc (tq aO 14 l) L (p,items) f](h:T W L (K (.i (items.length:Int)))):T W L (gi (ah l) K):=by
 have hL:f (p,items)=L:=i.same;refine Ik (g:=aO) (e:=14) (l:=l) λb c R hc=>?_;unfold gi;apply ws;exact hc [] _ _ _ _ _ rfl (by rw[hL];exact h)
def Wu{b:OA}{c:Nat}{v:Value}{n:Nat}{f1:LV->LH}{f2:HP->LH}[i:Lc (Sep.pt l) L [.l b items.length c,v] f1][j:wX b items.length c L 14 (items.flatMap aO) f2](hx:items[n]?=some x)(hl:items.length<1000000)
 (h:T W L (K (.tuple ⟨[.agg ⟨aO x⟩,.b true]⟩))):T W L (dV (ah l) (n:Int) K):=by
 have cn:=(ar.1 hx).1;unfold dV;apply ws;intros;apply ef (by simp);unfold gi;apply ws;unfold dV.j1;refine ef (by simp;omega) ?_;apply ws;refine dS ⟨by omega,by omega⟩ λr hr=>?_;subst hr;rw[ak];apply gI jT hx;apply ws;exact T.dp h
def aeW[i:Lc (tq aO 14 l) L (p,items) f]{n:Nat}(hx:items[n]?=some x)(hl:items.length<1000000)(h:T W L (K (.tuple ⟨[.agg ⟨aO x⟩,.b true]⟩))):T W L (dV (ah l) (n:Int) K):=by
 have hL:f (p,items)=L:=i.same;refine Ik (g:=aO) (e:=14) (l:=l) λb c R hc=>?_;apply Wu hx hl;exact hc [] _ _ _ _ _ rfl (by rw[hL];exact h)
abbrev Cv(r1 r3:Nat):Value:=.func (.func N.cJ) ⟨[]⟩ ⟨[.p (some (ad r1 0)),.p (some (ad r3 0))]⟩
abbrev E5(r4 r1 r2:Nat):Value:=.func (.func N.cI) ⟨[]⟩ ⟨[.p (some (ad r4 0)),.p (some (ad r1 0)),.p (some (ad r2 0))]⟩
def Wv[i:Lc (tq aO 14 l) L (p,items) f][j:W0 (tq aO 14 l) (gY p) L (p,items) q F](hl:items.length<1000000)(hv:q.vs.length<1000000)
 (h:∀r1 r3,T W (Sep.pt r3 [.i (items.length:Int)]::Sep.pt r1 [.p (some (ad l 0))]::F (p,items++[x]) {q with vs:=q.vs++[Cv r1 r3]}) (K (.i (items.length:Int)))):
 T W L (iY (ah l) (aO x) K):=by
 refine EE (P:=tq aO 14 l) (Q:=gY p) λR hc=>?_;refine sE λb c=>?_;unfold iY;apply ws;intros;refine kZ (x:=x) (by simp) rfl rfl (by omega) (by omega) (iV _) λb' c'=>?_;apply ws;apply wY (p:=p) hv rfl rfl;apply ws;rename_i r1 r2 r3 r4;refine T.sub (M:=[Sep.pt r3 _,Sep.pt r1 _]++Sep.pt l _::own b' _ c' 14 _::gY p _::R) ?_ (by repeat (first|exact bm.refl _|apply bm.cons_cons|apply bm.cons));exact yf (by simp) (hc [_,_] _ _ _ (h r1 r3))
def acv[i:Lc (tq aO 14 l) L (p,items) f][j:W0 (tq aO 14 l) (gY p) L (p,items) q F]{n:Nat}(hx:items[n]?=some y)(hl:items.length<1000000)(hv:q.vs.length<1000000)
 (h:∀r4 r1 r2,T W (Sep.pt r4 (aO y)::Sep.pt r2 [.i (n:Int)]::Sep.pt r1 [.p (some (ad l 0))]::F (p,items.set n x) {q with vs:=q.vs++[E5 r4 r1 r2]}) (K (.b true))):
 T W L (kK (ah l) (n:Int) (aO x) K):=by
 have cn:=(ar.1 hx).1;refine EE (P:=tq aO 14 l) (Q:=gY p) λR hc=>?_;refine sE λb c=>?_;unfold kK
 repeat' first|apply ws;intros|apply wb|refine Wu hx hl ?_
 refine dS ⟨by omega,by omega⟩ λr hr=>?_;subst hr;rw[ak];refine dU rfl (rN jT cn (iV _) ?_);apply ws;apply wY (p:=p) hv rfl rfl;apply ws;rename_i r1 r2 r3 r4;refine T.sub (M:=[Sep.pt r4 _,Sep.pt r2 _,Sep.pt r1 _]++Sep.pt l _::own (ah r) _ c 14 _::gY p _::R) ?_ (by repeat (first|exact bm.refl _|apply bm.cons_cons|apply bm.cons));exact yf (by simp) (hc [_,_,_] _ _ _ (h r4 r1 r2))
def acw[i:Lc (tq aO 14 l) L (p,items) f](hl:items.length<1000000)(h:∀b c,T W (own b items.length c 14 (items.flatMap aO)::L) (K (.l b items.length c))):T W L (kL (ah l) K):=by
 have hL:f (p,items)=L:=i.same;refine Ik (g:=aO) (e:=14) (l:=l) λb c R hc=>?_;unfold kL;apply ws;refine im (e:=14) ?_;refine sw (b:=none) (l0:=([]:List bP)) (l1:=items) jT rfl (by omega) iV λb' c'=>?_;have:=hc [own b' items.length c' 14 (items.flatMap aO)] b items.length c items _ rfl (by rw[hL];exact h b' c');simpa using this
end
section
variable {W:World} {L R:LH} {K:VK} {X:WK} {l p:Nat} {items:List cr} {f:Nat×List cr->LH} {F:Nat×List cr->Core->LH} {q:Core} {x y:cr}
def O8[i:Lc (tq bM 33 l) L (p,items) f](h:T W L (K (.i (items.length:Int)))):T W L (gv (ah l) K):=by
 have hL:f (p,items)=L:=i.same;refine Ik (g:=bM) (e:=33) (l:=l) λb c R hc=>?_;unfold gv;apply ws;exact hc [] _ _ _ _ _ rfl (by rw[hL];exact h)
def Wl{b:OA}{c:Nat}{v:Value}{n:Nat}{f1:LV->LH}{f2:HP->LH}[i:Lc (Sep.pt l) L [.l b items.length c,v] f1][j:wX b items.length c L 33 (items.flatMap bM) f2](hx:items[n]?=some x)(hl:items.length<1000000)
 (h:T W L (K (.tuple ⟨[.agg ⟨bM x⟩,.b true]⟩))):T W L (dT (ah l) (n:Int) K):=by
 have cn:=(ar.1 hx).1;unfold dT;apply ws;intros;apply ef (by simp);unfold gv;apply ws;unfold dT.j1;refine ef (by simp;omega) ?_;apply ws;refine dS ⟨by omega,by omega⟩ λr hr=>?_;subst hr;rw[ak];apply gI xo hx;apply ws;exact T.dp h
def Wj[i:Lc (tq bM 33 l) L (p,items) f]{n:Nat}(hx:items[n]?=some x)(hl:items.length<1000000)(h:T W L (K (.tuple ⟨[.agg ⟨bM x⟩,.b true]⟩))):T W L (dT (ah l) (n:Int) K):=by
 have hL:f (p,items)=L:=i.same;refine Ik (g:=bM) (e:=33) (l:=l) λb c R hc=>?_;apply Wl hx hl;exact hc [] _ _ _ _ _ rfl (by rw[hL];exact h)
abbrev wB(r1 r3:Nat):Value:=.func (.func N.da) ⟨[]⟩ ⟨[.p (some (ad r1 0)),.p (some (ad r3 0))]⟩
abbrev Cu(r4 r1 r2:Nat):Value:=.func (.func N.c9) ⟨[]⟩ ⟨[.p (some (ad r4 0)),.p (some (ad r1 0)),.p (some (ad r2 0))]⟩
def Wm[i:Lc (tq bM 33 l) L (p,items) f][j:W0 (tq bM 33 l) (gY p) L (p,items) q F](hl:items.length<1000000)(hv:q.vs.length<1000000)
 (h:∀r1 r3,T W (Sep.pt r3 [.i (items.length:Int)]::Sep.pt r1 [.p (some (ad l 0))]::F (p,items++[x]) {q with vs:=q.vs++[wB r1 r3]}) (K (.i (items.length:Int)))):
 T W L (kh (ah l) (bM x) K):=by
 refine EE (P:=tq bM 33 l) (Q:=gY p) λR hc=>?_;refine sE λb c=>?_;unfold kh;apply ws;intros;refine kZ (x:=x) (by simp) rfl rfl (by omega) (by omega) (nj _) λb' c'=>?_;apply ws;apply wY (p:=p) hv rfl rfl;apply ws;rename_i r1 r2 r3 r4;refine T.sub (M:=[Sep.pt r3 _,Sep.pt r1 _]++Sep.pt l _::own b' _ c' 33 _::gY p _::R) ?_ (by repeat (first|exact bm.refl _|apply bm.cons_cons|apply bm.cons));exact yf (by simp) (hc [_,_] _ _ _ (h r1 r3))
def aco[i:Lc (tq bM 33 l) L (p,items) f][j:W0 (tq bM 33 l) (gY p) L (p,items) q F]{n:Nat}(hx:items[n]?=some y)(hl:items.length<1000000)(hv:q.vs.length<1000000)
 (h:∀r4 r1 r2,T W (Sep.pt r4 (bM y)::Sep.pt r2 [.i (n:Int)]::Sep.pt r1 [.p (some (ad l 0))]::F (p,items.set n x) {q with vs:=q.vs++[Cu r4 r1 r2]}) (K (.b true))):
 T W L (mI (ah l) (n:Int) (bM x) K):=by
 have cn:=(ar.1 hx).1;refine EE (P:=tq bM 33 l) (Q:=gY p) λR hc=>?_;refine sE λb c=>?_;unfold mI
 repeat' first|apply ws;intros|apply wb|refine Wl hx hl ?_
 refine dS ⟨by omega,by omega⟩ λr hr=>?_;subst hr;rw[ak];refine dU rfl (rN xo cn (nj _) ?_);apply ws;apply wY (p:=p) hv rfl rfl;apply ws;rename_i r1 r2 r3 r4;refine T.sub (M:=[Sep.pt r4 _,Sep.pt r2 _,Sep.pt r1 _]++Sep.pt l _::own (ah r) _ c 33 _::gY p _::R) ?_ (by repeat (first|exact bm.refl _|apply bm.cons_cons|apply bm.cons));exact yf (by simp) (hc [_,_,_] _ _ _ (h r4 r1 r2))
def acp[i:Lc (tq bM 33 l) L (p,items) f](hl:items.length<1000000)(h:∀b c,T W (own b items.length c 33 (items.flatMap bM)::L) (K (.l b items.length c))):T W L (mJ (ah l) K):=by
 have hL:f (p,items)=L:=i.same;refine Ik (g:=bM) (e:=33) (l:=l) λb c R hc=>?_;unfold mJ;apply ws;refine im (e:=33) ?_;refine sw (b:=none) (l0:=([]:List cr)) (l1:=items) xo rfl (by omega) nj λb' c'=>?_;have:=hc [own b' items.length c' 33 (items.flatMap bM)] b items.length c items _ rfl (by rw[hL];exact h b' c');simpa using this
end
def wV(bx:List (Nat×LV)):HP:=wM (bx.map λx=>Sep.pt x.1 x.2)
def St.TX{W w:World}{M R:LH}{A:HP}(h:St W w (wM M::R))(hm:A∈M):∃R',St W w (A::R')/\∀w',St W w' (A::R')->St W w' (wM M::R):=by
 obtain⟨k,hk⟩:=qW hm;have p:=tW hk;exact⟨M.eraseIdx k++R,(St.tC M R h).perm (p.append_right R),λw' h'=>St.rP M R (h'.perm (p.symm.append_right R))⟩
section
variable {W:World} {L:LH} {K:VK} {X:WK} {r o n:Nat} {cs xs:LV} {v:Value} {bx:List (Nat×LV)} {f:List (Nat×LV)->LH}
def G4(hm:(r,cs)∈bx)[i:Lc wV L bx f]{w:World}(hs:St W w L):∃R,St W w (Sep.pt r cs::R):=by
 obtain⟨k,hk,_⟩:=i.at_;obtain⟨R,h1,_⟩:=St.TX (M:=bx.map λx=>Sep.pt x.1 x.2) (hs.focus hk) (cV.2 ⟨(r,cs),hm,rfl⟩);exact⟨R,h1⟩
def tp[i:Lc wV L bx f](hm:(r,cs)∈bx)(hv:cs[o]?=some v)(h:T W L (K v)):T W L (ld ⟨r,o,none⟩ K):=λw hs=>by
 obtain⟨R,hr⟩:=G4 hm hs;exact cZ hr (k:=0) rfl hv (h w hs)
def FC[i:Lc wV L bx f](hm:(r,cs)∈bx)(hv:cs[o]?=some v)(h:T W L X):T W L (kp ⟨r,o,none⟩ [v] X):=λw hs=>by
 obtain⟨R,hr⟩:=G4 hm hs;exact kI hr (k:=0) rfl hv (h w hs)
def Fy{K:LV->WK}[i:Lc wV L bx f](hm:(r,cs)∈bx)[s:Sub cs o n xs](h:T W L (K xs)):T W L (aJ ⟨r,o,none⟩ n K):=λw hs=>by
 obtain⟨R,hr⟩:=G4 hm hs;exact kq hr (k:=0) rfl s.is.1 s.is.2 (h w hs)
def eX[i:Lc wV L bx f](h:T W (f ((r,cs)::bx)) X):T W (Sep.pt r cs::L) X:=by
 obtain⟨R,h1,h2⟩:=i.perm;refine T.perm (λw hs=>?_) (h1.cons _);refine T.perm h (h2 _).symm w (St.rP (((r,cs)::bx).map λx=>Sep.pt x.1 x.2) R ?_);exact(St.tC (bx.map λx=>Sep.pt x.1 x.2) (Sep.pt r cs::R) (hs.perm (cf.swap _ _ _))).perm iM
end
structure C where
 aC:List bP
 ax:List cr
 qj:(Nat->Option Int)×Nat
 ix:(Nat->Option Int)×Nat
 dJ:List oG
 ends:List Item
 clock:Int
 ay:Int
abbrev BD(a:Nat):Value:=.func (.func N.eH) ⟨[]⟩ ⟨[.p (some (ad a 0))]⟩
abbrev ZE(a a2:Nat):Value:=.func (.func N.eJ) ⟨[]⟩ ⟨[.p (some (ad a 0)),.p (some (ad a2 0))]⟩
abbrev Tu(a a2:Nat):Value:=.func (.func N.eL) ⟨[]⟩ ⟨[.p (some (ad a 0)),.p (some (ad a2 0))]⟩
abbrev Ft(a a2 a3:Nat):Value:=.func (.func N.eP) ⟨[]⟩ ⟨[.p (some (ad a 0)),.p (some (ad a2 0)),.p (some (ad a3 0))]⟩
abbrev NI(a a2:Nat):Value:=.func (.func N.eO) ⟨[]⟩ ⟨[.p (some (ad a 0)),.p (some (ad a2 0))]⟩
abbrev aax(a a2:Nat):Value:=.func (.func N.fp) ⟨[]⟩ ⟨[.p (some (ad a 0)),.p (some (ad a2 0))]⟩
inductive Ee(p la lk:Nat)(bx:List (Nat×LV)):Value->C->C->Prop
 |next {c:C} {a:Nat} {s:Int} (h1:(a,[.pointer (some (ad p 0))])∈bx) (hs:aa.wrap (c.ay-1)=s):Ee p la lk bx (BD a) c {c with ay:=s}
 |time {c:C} {a a2:Nat} {t:Int} (h1:(a,[.int .i64 t])∈bx) (h2:(a2,[.pointer (some (ad p 0))])∈bx):Ee p la lk bx (ZE a a2) c {c with clock:=t}
 |open_ {c:C} {a a2:Nat} {x:bP} {m:(Nat->Option Int)×Nat} (h1:(a,[.pointer (some (ad p 0))])∈bx) (h2:(a2,aO x)∈bx) (hu:c.qj.2<=1000) (hi:(c.qj.1 x.id).isSome=true) (hm:(xK c.qj.1 x.id none,c.qj.2-1)=m):
  Ee p la lk bx (Tu a a2) c {c with qj:=m}
 |Zj {c:C} {a a2 n:Nat} (h1:(a,[.pointer (some (ad la 0))])∈bx) (h2:(a2,[.int .i64 (n:Int)])∈bx) (hn:n<=c.aC.length):Ee p la lk bx (Cv a a2) c {c with aC:=c.aC.take n}
 |Zi {c:C} {a a2 n:Nat} (h1:(a,[.pointer (some (ad lk 0))])∈bx) (h2:(a2,[.int .i64 (n:Int)])∈bx) (hn:n<=c.ax.length):Ee p la lk bx (wB a a2) c {c with ax:=c.ax.take n}
 |Xk {c:C} {a1 a2 a3 n:Nat} {x:bP} (h1:(a1,aO x)∈bx) (h2:(a2,[.pointer (some (ad la 0))])∈bx) (h3:(a3,[.int .i64 (n:Int)])∈bx) (hn:n<c.aC.length):Ee p la lk bx (E5 a1 a2 a3) c {c with aC:=c.aC.set n x}
 |Xj {c:C} {a1 a2 a3 n:Nat} {x:cr} (h1:(a1,bM x)∈bx) (h2:(a2,[.pointer (some (ad lk 0))])∈bx) (h3:(a3,[.int .i64 (n:Int)])∈bx) (hn:n<c.ax.length):Ee p la lk bx (Cu a1 a2 a3) c {c with ax:=c.ax.set n x}
 |Qh {c:C} {a a2 a3:Nat} {t:cH} {k:cr} {l0:List oG} {at_:Int} {m:(Nat->Option Int)×Nat} (h1:(a,[.pointer (some (ad p 0))])∈bx) (h2:(a2,aN t)∈bx) (h3:(a3,bM k)∈bx)
  (hu:c.ix.2<=1000) (hi:(c.ix.1 t.id).isSome=true) (hr:tM c.dJ) (hl:c.dJ.length<100000) (hs:c.dJ=l0++[(k.move.ay,at_)]) (hm:(xK c.ix.1 t.id none,c.ix.2-1)=m):
  Ee p la lk bx (Ft a a2 a3) c {c with ix:=m,dJ:=l0}
 |Qg {c:C} {a a2:Nat} {x:Item} {e':List Item} (h1:(a,[.pointer (some (ad p 0))])∈bx) (h2:(a2,gR x)∈bx) (hl:c.ends.length<10000) (he:(x::e').Perm c.ends) (hn:∀y∈e',y.ay≠x.ay):
  Ee p la lk bx (NI a a2) c {c with ends:=e'}
 |end_ {c:C} {a a2:Nat} {x:Item} {e':List Item} (h1:(a,[.pointer (some (ad p 0))])∈bx) (h2:(a2,gR x)∈bx) (hl:c.ends.length<10000) (he:e'.Perm (c.ends++[x])):Ee p la lk bx (aax a a2) c {c with ends:=e'}
def Ee.mono{p la lk:Nat}{bx o0:List (Nat×LV)}{v:Value}{c c':C}(h:Ee p la lk bx v c c')(hs:∀x∈bx,x∈o0):Ee p la lk o0 v c c':=by
 cases h with
 |next h1 h2=>exact .next (hs _ h1) h2
 |time h1 h2=>exact .time (hs _ h1) (hs _ h2)
 |open_ h1 h2 h3 h4 h5=>exact .open_ (hs _ h1) (hs _ h2) h3 h4 h5
 |Zj h1 h2 h3=>exact .Zj (hs _ h1) (hs _ h2) h3
 |Zi h1 h2 h3=>exact .Zi (hs _ h1) (hs _ h2) h3
 |Xk h1 h2 h3 h4=>exact .Xk (hs _ h1) (hs _ h2) (hs _ h3) h4
 |Xj h1 h2 h3 h4=>exact .Xj (hs _ h1) (hs _ h2) (hs _ h3) h4
 |Qh h1 h2 h3 h4 h5 h6 h7 h8 h9=>exact .Qh (hs _ h1) (hs _ h2) (hs _ h3) h4 h5 h6 h7 h8 h9
 |Qg h1 h2 h3 h4 h5=>exact .Qg (hs _ h1) (hs _ h2) h3 h4 h5
 |end_ h1 h2 h3 h4=>exact .end_ (hs _ h1) (hs _ h2) h3 h4
def kz(p la lk:Nat)(bx:List (Nat×LV)):LV->List C->C->Prop
 |[],[],_=>True
 |v::vs,c'::hs,c=>Ee p la lk bx v c c'/\kz p la lk bx vs hs c'
 |_,_,_=>False
def kz.mono{p la lk:Nat}{bx o0:List (Nat×LV)}(hs:∀x∈bx,x∈o0):∀{vs:LV} {h:List C} {c:C},kz p la lk bx vs h c->kz p la lk o0 vs h c
 |[],[],_,_=>trivial
 |v::vs,c'::h,c,hc=>⟨hc.1.mono hs,kz.mono hs hc.2⟩
def kz.len{p la lk:Nat}{bx:List (Nat×LV)}:∀{vs:LV} {h:List C} {c:C},kz p la lk bx vs h c->vs.length=h.length
 |[],[],_,_=>rfl
 |v::vs,c'::h,c,hc=>by simp[kz.len hc.2]
abbrev gK(la lk ti tn:Nat)(vs:LV)(c:C):Core:=⟨la,lk,ti,tn,vs.reverse,c.dJ,c.ends,c.clock,c.ay⟩
def LD(p la lk ti tn:Nat)(vs:LV)(bx:List (Nat×LV))(c:C)(R:LH):LH:=
 gY p (gK la lk ti tn vs c)::tq aO 14 la (p,c.aC)::tq bM 33 lk (p,c.ax)::pL ti c.qj::pL tn c.ix::wV bx::R
section
variable {W:World} {R:LH} {K:VK} {X:WK} {p la lk ti tn:Nat} {vs:LV} {bx:List (Nat×LV)} {c c':C} {v:Value}
def aeL:Hr:=[(N.fp,fp.u),(N.eP,eP.u),(N.eO,eO.u),(N.eL,eL.u),(N.eJ,eJ.u),(N.eH,eH.u),(N.cJ,cJ.u),(N.cI,cI.u),(N.da,da.u),(N.c9,c9.u)]
def T.Jo{q:Core}{e e':List Item}(he:e.Perm e')(h:T W (gY p {q with ends:=e'}::R) X):T W (gY p {q with ends:=e}::R) X:=
 Jp λb1 c1 b2 c2 b3 c3 hp h1 h2=>Bg (q:={q with ends:=e'}) h1 (h2.trans he) h
def T.N0{A B:HP}(h:T W (B::A::R) X):T W (A::B::R) X:=T.perm h (cf.swap _ _ _)
def T.ZR{A B:HP}(h:T W (A::B::R) X):T W (B::A::R) X:=T.perm h (cf.swap _ _ _)
def T.aa2{A B D:HP}(h:T W (D::A::B::R) X):T W (A::B::D::R) X:=T.ZT (R:=R) h
def T.ZQ{A B D:HP}(h:T W (A::B::D::R) X):T W (D::A::B::R) X:=T.ZS (R:=R) h
def Ic{x y:Item}{e' e2 e:List Item}(h1:(x::e').Perm e)(h2:(y::e2).Perm e)(hy:y.ay=x.ay)(hn:∀z∈e',z.ay≠x.ay):e2.Perm e':=by
 have:y∈x::e':=h1.mem_iff.2 (h2.mem_iff.1 (by simp));rcases ka.1 this with rfl|hm
 ·exact(List.perm_cons y).1 (h2.trans h1.symm)
 ·exact aT hy (hn y hm)
def acT(hc:Ee p la lk bx v c c')(h:T W (LD p la lk ti tn vs bx c' R) (K (.tuple ⟨[]⟩))):T W (LD p la lk ti tn vs bx c R) (xF aeL v [] K):=by
 unfold LD at *;cases hc with
 |next h1 hs=>
  rename_i a s;show T W _ (eH (ad a 0) K);unfold eH
  repeat' first|apply ws|apply wb|first|refine tp h1 rfl ?_|refine NM ?_
  rw[show aa.wrap ((gK la lk ti tn vs c).ay-1)=s from hs];exact h
 |time h1 h2=>
  rename_i a a2 t;show T W _ (eJ (ad a 0) (ad a2 0) K);unfold eJ
  repeat' first|apply ws|apply wb|first|refine tp h2 rfl ?_|refine tp h1 rfl ?_|refine NN ?_
  exact h
 |open_ h1 h2 h3 h4 h5=>
  rename_i a a2 x m;show T W _ (eL (ad a 0) (ad a2 0) K);unfold eL
  repeat' first|apply ws|apply wb|first|refine tp h1 rfl ?_|refine FC h1 rfl ?_
  apply Fy h2;refine Wo h3 (λ_=>?_) (λhn=>by rw[hn] at h4;cases h4)
  repeat' first|apply ws|apply wb|refine FC h1 rfl ?_
  rw[h5];exact h
 |Zj h1 h2 h3=>
  rename_i a a2 n;show T W _ (cJ (ad a 0) (ad a2 0) K);apply T.N0;refine sE λb cc=>?_;unfold cJ
  repeat' first|apply ws|apply wb|first|refine tp h1 rfl ?_|refine tp h2 rfl ?_
  refine rG (b:=b) λvX _=>?_;refine AS (by omega) ?_;refine BG (b:=b) (i:=n) jT (by omega) ?_;apply ws;exact u7 (g:=aO) (e:=14) (by rw[aD];omega) (T.ZR h)
 |Zi h1 h2 h3=>
  rename_i a a2 n;show T W _ (da (ad a 0) (ad a2 0) K);apply T.aa2;refine sE λb cc=>?_;unfold da
  repeat' first|apply ws|apply wb|first|refine tp h1 rfl ?_|refine tp h2 rfl ?_
  refine rG (b:=b) λvX _=>?_;refine AS (by omega) ?_;refine BG (b:=b) (i:=n) xo (by omega) ?_;apply ws;exact u7 (g:=bM) (e:=33) (by rw[aD];omega) (T.ZQ h)
 |Xk h1 h2 h3 h4=>
  rename_i a1 a2 a3 n x;show T W _ (cI (ad a1 0) (ad a2 0) (ad a3 0) K);apply T.N0;refine sE λb cc=>?_;unfold cI
  repeat' first|apply ws|apply wb|first|refine tp h2 rfl ?_|refine tp h3 rfl ?_
  apply Fy h1;refine dS ⟨by omega,by omega⟩ λr hr=>?_;subst hr;rw[ak];refine dU rfl (rN jT h4 (iV _) ?_);exact u7 (g:=aO) (e:=14) (by simp) (T.ZR h)
 |Xj h1 h2 h3 h4=>
  rename_i a1 a2 a3 n x;show T W _ (c9 (ad a1 0) (ad a2 0) (ad a3 0) K);apply T.aa2;refine sE λb cc=>?_;unfold c9
  repeat' first|apply ws|apply wb|first|refine tp h2 rfl ?_|refine tp h3 rfl ?_
  apply Fy h1;refine dS ⟨by omega,by omega⟩ λr hr=>?_;subst hr;rw[ak];refine dU rfl (rN xo h4 (nj _) ?_);exact u7 (g:=bM) (e:=33) (by simp) (T.ZQ h)
 |Qh h1 h2 h3 h4 h5 h6 h7 h8 h9=>
  rename_i a a2 a3 t k l0 at_ m;show T W _ (eP (ad a 0) (ad a2 0) (ad a3 0) K);unfold eP
  repeat' first|apply ws|apply wb|first|refine tp h1 rfl ?_|refine FC h1 rfl ?_
  apply Fy h2;refine Wo h4 (λ_=>?_) (λhn=>by rw[hn] at h5;cases h5)
  repeat' first|apply ws|apply wb|first|refine tp h1 rfl ?_|refine FC h1 rfl ?_|refine tp h3 rfl ?_
  simp only[ia,aB];refine VA (p:=p) (q:=gK la lk ti tn vs c) h6 (by show c.dJ.length<_;omega) h8 ?_
  repeat' first|apply ws|apply wb|refine FC h1 rfl ?_
  rw[h9];exact h
 |Qg h1 h2 h3 h4 h5=>
  rename_i a a2 x e';show T W _ (eO (ad a 0) (ad a2 0) K);unfold eO
  repeat' first|apply ws|apply wb|first|refine tp h1 rfl ?_|refine tp h2 rfl ?_
  simp only[ia,aB];refine MM (p:=p) (q:=gK la lk ti tn vs c) h3 (λy e2 hy hp=>?_) (λHp=>aT rfl (Hp x (h4.mem_iff.1 (by simp))))
  repeat' first|apply ws|apply wb|refine FC h1 rfl ?_
  exact T.Jo (Ic h4 hp hy h5) h
 |end_ h1 h2 h3 h4=>
  rename_i a a2 x e';show T W _ (fp (ad a 0) (ad a2 0) K);unfold fp
  repeat' first|apply ws|apply wb|refine tp h1 rfl ?_
  apply Fy h2;simp only[ia,aB];apply Kr (p:=p) (q:=gK la lk ti tn vs c) h3 h4
  repeat' first|apply ws|apply wb|refine FC h1 rfl ?_
  exact h
end
structure ah4 where
 la:Nat
 lk:Nat
 ti:Nat
 tn:Nat
def cP(p:Nat)(x:C×List C):HP:=
 S8 λz:ah4×LV×List (Nat×LV)=>G9 (kz p z.1.la z.1.lk z.2.2 z.2.1 x.2 x.1) (wM (LD p z.1.la z.1.lk z.1.ti z.1.tn z.2.1 z.2.2 x.1 []))
section
variable {W:World} {L R:LH} {K:VK} {X:WK} {p:Nat} {c:C} {hs:List C} {f:C×List C->LH}
def VF(h:∀la lk ti tn vs bx,kz p la lk bx vs hs c->T W (gY p (gK la lk ti tn vs c)::tq aO 14 la (p,c.aC)::tq bM 33 lk (p,c.ax)::pL ti c.qj::pL tn c.ix::wV bx::R) X):T W (cP p (c,hs)::R) X:=λw hw=>by
 obtain⟨⟨⟨la,lk,ti,tn⟩,vs,bx⟩,hw⟩:=hw.ex;obtain⟨hc,hw⟩:=hw.and;exact h la lk ti tn vs bx hc w (St.tC _ _ hw)
def E7{la lk ti tn:Nat}{vs:LV}{bx:List (Nat×LV)}(hc:kz p la lk bx vs hs c)(h:T W (cP p (c,hs)::R) X):
 T W (gY p (gK la lk ti tn vs c)::tq aO 14 la (p,c.aC)::tq bM 33 lk (p,c.ax)::pL ti c.qj::pL tn c.ix::wV bx::R) X:=λw hw=>
 h w (St.rA (⟨la,lk,ti,tn⟩,vs,bx) (St.and_intro hc (St.rP _ _ hw)))
def t_c[i:Lc (cP p) L (c,hs) f](h:∀la lk ti tn vs bx R,kz p la lk bx vs hs c->
 (∀M c' fF Hm o0 Y,kz p la lk o0 Hm fF c'->T W (M++f (c',fF)) Y->T W (M++gY p (gK la lk ti tn Hm c')::tq aO 14 la (p,c'.aC)::tq bM 33 lk (p,c'.ax)::pL ti c'.qj::pL tn c'.ix::wV o0::R) Y)->
 T W (gY p (gK la lk ti tn vs c)::tq aO 14 la (p,c.aC)::tq bM 33 lk (p,c.ax)::pL ti c.qj::pL tn c.ix::wV bx::R) X):T W L X:=
 ED (P:=cP p) λR qh=>VF λla lk ti tn vs bx hc=>h la lk ti tn vs bx R hc λM c' fF Hm o0 Y Mu hy=>
  T.perm (E7 (R:=M++R) Mu (T.perm (qh M (c',fF) Y hy) iM.symm)) (by
   have:=bG (l₁:=M) (l₂:=[gY p (gK la lk ti tn Hm c'),tq aO 14 la (p,c'.aC),tq bM 33 lk (p,c'.ax),pL ti c'.qj,pL tn c'.ix,wV o0])|>.append_right R
   simpa using this)
def CM{b:OA}{n c e i:Nat}{xs:LV}{f:HP->LH}[j:wX b n c L e xs f](hi:i<=n)(h:T W (f (own b i c e (xs.take (i* e)))) X):T W L X:=λw hs=>by
 obtain⟨k,hk,e1⟩:=j.at_;apply h w;rw[e1];exact St.ss ((hs.focus hk).mono (Gb hi)) hk
def TF{r n c e o:Nat}{xs:LV}{v:Value}{f:HP->LH}[j:wX (ah r) n c L e xs f](hv:xs[o]?=some v)(h:T W L (K v)):T W L (ld ⟨r,o,none⟩ K):=λw hs=>by
 obtain⟨k,hk,_⟩:=j.at_;exact A3 hs hk hv (h w hs)
def TK{b:OA}{n c e:Nat}{xs ys:LV}{f:HP->LH}[j:wX b n c L e xs f](hl:ys.length=xs.length)(h1:∀v∈ys,v.oneCell'=true)(h:∀zs,T W (f (own b n c e zs)) X):T W L (Y4 ys b n X):=λw hs=>by
 obtain⟨k,hk,e1⟩:=j.at_;refine⟨λ_=>h xs w (by rw[e1,nW hk];exact hs),λa ha _=>?_⟩;obtain⟨hlx,h0|⟨r,sp,hb,vX,A5,ib⟩⟩:=hs.oU hk
 ·rw[h0.1] at ha;cases ha
 ·rw[hb] at ha;cases ha
  obtain⟨hc,vU⟩:=St.AT ys 0 0 ib (kn hk) (by simp;omega) h1;refine⟨hc,h ys _ ?_⟩;rw[jH,gM] at vU;have e2:over (xs++sp) 0 ys=ys++sp:=by
   unfold over;rw[mR,cQ,aB,hl,List.drop_left' rfl]
  rw[e2] at vU;rw[e1,hb];exact St.CZ ((ar.1 hk).1) (by rw[hl];exact hlx) vX A5 vU
def vP(n:Nat):C->List C->C×List C
 |c,[]=>(c,[])
 |c,c'::hs=>if n<=hs.length then vP n c' hs else(c,c'::hs)
def Ea{n:Nat}(hn:hs.length<=n):vP n c hs=(c,hs):=by
 cases hs with
 |nil=>rfl
 |cons c' hs=>unfold vP;rw[ag (by simp at hn;omega)]
def Sp{q:Core}{w:World}(h:St W w (gY p q::R)):∃b c,w.cell? ⟨p,0,none⟩=some (.l b q.vs.length c):=by
 obtain⟨⟨⟨b1,c1⟩,⟨b2,c2⟩,⟨b3,c3⟩,hp⟩,hs⟩:=h.ex;obtain⟨_,hs⟩:=hs.and;have:=(St.tC _ _ hs).cell (k:=0) (o:=0) rfl;exact⟨b1,c1,this.1⟩
def muB(p:Nat)(w:World):Nat:=match w.cell? ⟨p,0,none⟩ with|some (.slice _ m _)=>m|_=>0
def Uy{q:Core}{w:World}(h:St W w (gY p q::R)):muB p w=q.vs.length:=by
 obtain⟨b,cc,e⟩:=Sp h;unfold muB;rw[e]
def acu[i:Lc (cP p) L (c,hs) f]{n:Nat}(hl:hs.length<1000000)(h:T W (f (vP n c hs)) (K (.tuple ⟨[]⟩))):T W L (tQ (ah p) (n:Int) K):=by
 refine t_c (p:=p) λla lk ti tn vs bx R hc qh=>?_;unfold tQ;apply zg;intro w hw;refine⟨λa w=>∃vs fF c',a=[]/\fF.length<1000000/\kz p la lk bx vs fF c'/\vP n c' fF=vP n c hs/\St W w (LD p la lk ti tn vs bx c' R),
  λ_ w=>muB p w,⟨vs,hs,c,rfl,hl,hc,rfl,hw⟩,?_⟩
 rintro w2 ⟨Hm,fF,c',-,Np,Mu,hb,hw⟩;have hmu:muB p w2=Hm.length:=by
  have:=Uy (q:=gK la lk ti tn Hm c') hw;rw[this];simp
 refine T.at ?_ hw;have hlen:=Mu.len;have Yh:max2 (n:Int) 0=n:=by unfold max2;split<;>omega
 rw[Yh];unfold LD;refine q6 (p:=p) λb1 c1 b2 c2 b3 c3 hp R2 g1 g2 U4=>?_;unfold jq;have hrl:(gK la lk ti tn Hm c').vs.length=Hm.length:=jx;apply ws;apply ga<;>intro g
 ·have Qv:n<Hm.length:=by omega
  match Hm,fF,Mu,hlen,Np,Qv with
  |v::y8,c2'::ib,Mu,hlen,Np,Qv=>
  simp only[bE] at Qv Np hlen;have hrl:(gK la lk ti tn (v::y8) c').vs.length=y8.length+1:=by show(v::y8).reverse.length=_;simp
  have e1:aa.wrap (((gK la lk ti tn (v::y8) c').vs.length:Int) -1)=(y8.length:Int):=by rw[aX (by omega)];omega
  apply ws;rw[e1];refine dS ⟨by omega,by omega⟩ λr hr=>?_;subst hr;rw[ak,mF];refine TF (v:=v) (by simp) ?_;refine U4 [] (gK la lk ti tn (v::y8) c') _ _ _ _ _ _ _ _ g1 g2 ?_;apply acT (c':=c2') (vs:=v::y8) Mu.1;unfold LD;refine q6 (p:=p) λb1 c1 b2 c2 b3 c3 hp R2 g1 g2 afE=>?_;unfold jq;apply ws;refine rG (b:=b1) λvX _=>?_;have vX:(gK la lk ti tn (v::y8) c').vs.length<=c1:=vX;apply AS (by omega);refine CM (b:=b1) (i:=y8.length) (show y8.length<=(gK la lk ti tn (v::y8) c').vs.length by omega) ?_;apply ws;have et:List.take (y8.length* 1) (v::y8).reverse=y8.reverse:=by rw[mF,yL,<-jx,Dv]
  rw[et];have:=afE [] (gK la lk ti tn y8 c2') b1 c1 b2 c2 b3 c3 hp (λw3=>(∃vs fF c',([]:LV)=[]/\fF.length<1000000/\kz p la lk bx vs fF c'/\vP n c' fF=vP n c hs/\St W w3 (LD p la lk ti tn vs bx c' R))/\muB p w3<muB p w2) g1 g2 ?_
  ·unfold jq at this;rw[show(gK la lk ti tn y8 c2').vs.length=y8.length from jx] at this;exact this
  ·intro w3 h3;refine⟨⟨y8,ib,c2',rfl,by omega,Mu.2,?_,h3⟩,?_⟩
   ·rw[<-hb]
    conv=>rhs;unfold vP
    rw[ai (by omega)]
   ·have:=Uy (q:=gK la lk ti tn y8 c2') h3;rw[this,hmu];simp
 ·have hle:Hm.length<=n:=by omega
  rw[Ea (by omega)] at hb;rw[<-hb] at h;refine U4 [] (gK la lk ti tn Hm c') _ _ _ _ _ _ _ _ g1 g2 ?_;exact qh [] c' fF Hm bx _ Mu h
def Zt[i:Lc (cP p) L (c,hs) f](hl:hs.length<1000000)(h:T W (f (c,[])) (K (.tuple ⟨[]⟩))):T W L (nd (ah p) K):=by
 refine t_c (p:=p) λla lk ti tn vs bx R hc qh=>?_;have hlen:=hc.len;refine q6 (p:=p) λb1 c1 b2 c2 b3 c3 hp R2 g1 g2 U4=>?_;unfold nd jq;apply ws;refine rG (b:=b1) λvX I7=>?_;refine TK (b:=b1) (by rw[oN,I7];simp) (λv hv=>?_) λzs=>?_
 ·simp only[Builtin.zeroCells,Array.toList_map,cV] at hv;obtain⟨j,_,rfl⟩:=hv;have:(⟨[Value.nilFunc]⟩:Array Value)[j%(⟨[Value.nilFunc]⟩:Array Value).size]! =.nilFunc:=by
   have:j%(⟨[Value.nilFunc]⟩:Array Value).size=0:=Nat.mod_one j;rw[this];rfl
  rw[this];rfl
 apply ws;refine AS (i:=0) (by omega) ?_;refine CM (b:=b1) (i:=0) (by omega) ?_;apply ws;rw[Nat.zero_mul,mR];refine U4 [] (gK la lk ti tn [] c) b1 c1 b2 c2 b3 c3 hp _ g1 g2 ?_;exact qh [] c [] [] bx _ trivial h
end
end Go.Up
namespace Go.Md
structure bW(m:aA):Prop where
 zero:∀a∈m.cW,a.dp=0/\a.dq=0/\a.cp=0/\a.cq=0/\0<=a.aq/\a.aq<8
 ids:(m.cW.map (·.id)).Nodup
 oJ:m.cW.length<=32
 names:(m.ax.map (·.move.id)).Nodup
 vH:∀k∈m.ax,0<=k.fate/\k.fate<=4/\(has k.move.aq 2↔1<=k.fate)
 zj:∀k∈m.ax,k.move.bI≠k.move.aU/\k.move.bI∈m.cW.map (·.id)/\k.move.aU∈m.cW.map (·.id)
 some_:m.ax.length<=96
 zJ:∀a∈m.cW,S (Bv a.id) m.ax+S (Dd a.id) m.ax<bO
 wz:∀a∈m.cW,S (Bw a.id) m.ax+S (De a.id) m.ax<bO
 wA:∀a∈m.cW,S (vG a.id) m.ax<=1
structure pK(b:ba)(m:aA):Prop where
 aC:b.aC=m.cW.map (full m.ax)
 ax:b.ax=m.ax
 clock:b.clock=m.clock
 ay:b.ay=m.ay
def bW.full{m:aA}(h:bW m){a:bP}(ha:a∈m.cW):m.full a=Md.full m.ax a:=by
 obtain⟨h1,h2,h3,h4,_⟩:=h.zero a ha;have d:=h.zJ a ha;have c:=h.wz a ha;exact OC a m.ax (by omega) (by omega) (by omega) (by omega)
def xw{l:List bP}{id:Nat}{a:bP}(h:l.find? (λa=>a.id=id)=some a):a∈l/\a.id=id:=
 ⟨nD h,by simpa using List.find?_some h⟩
def pK.find{b:ba}{m:aA}(h:pK b m)(id:Nat):b.find id=(m.find id).map (Md.full m.ax):=by
 unfold ba.find aA.find;rw[h.aC,List.find?_map]
 rfl
def Jf(l:List cr)(k:cr)(a:bP):full (l++[k]) a=full [k] (full l a):=(DY a l [k]).symm
def Cl(k:cr)(a:bP):full [k] a={a with dp:=a.dp+Bv a.id k,dq:=a.dq+Dd a.id k,cp:=a.cp+Bw a.id k,cq:=a.cq+De a.id k,aq:=if kO a.id k then a.aq%8+8 else a.aq}:=by
 unfold full;simp only[sU,zP,gM]
 congr 1
 unfold vG;by_cases h:kO a.id k
 ·rw[ai h,ai h,ag (by omega)]
 ·rw[ag h,ag h,ai rfl]
def tJ(t b:cH):tK t b≠0:=by unfold tK;split<;>decide
def wk{t:cH}{named:Option cr}{d c:Option bP}{many:Nat}(h:(jI t named d c many).1=0):
 ∃d' c',d=some d'/\c=some c'/\named=none/\nL t=0/\ ¬jZ t.aq/\d'.bJ=c'.bJ/\d'.aq<8/\c'.aq<8/\many<96/\
  d'.dp+d'.dq+(jI t named d c many).2<bO/\c'.cp+c'.cq+(jI t named d c many).2<bO/\
  ¬(has d'.aq 2/\ja d' true<(jI t named d c many).2)/\ ¬(has c'.aq 4/\ja c' false<(jI t named d c many).2):=by
 unfold jI at h⊢;by_cases h1:nL t≠0
 ·rw[ai h1] at h;exact aT h h1
 rw[ag h1] at h⊢;by_cases h2:jZ t.aq
 ·rw[ai h2] at h;exact aT h (by decide)
 rw[ag h2] at h⊢;cases named with
 |some k=>exact aT h (tJ t k.asked)
 |none=>
  cases d with
  |none=>exact aT h (show ¬(19:Int)=0 by decide)
  |some d=>
   cases c with
   |none=>exact aT h (show ¬(20:Int)=0 by decide)
   |some c=>
    dsimp only at h⊢;by_cases h3:d.bJ≠c.bJ
    ·rw[ai h3] at h;exact aT h (by decide)
    rw[ag h3] at h⊢;by_cases h4:d.bJ≠t.bJ
    ·rw[ai h4] at h;exact aT h (by decide)
    rw[ag h4] at h⊢;by_cases h5:8<=d.aq
    ·rw[ai h5] at h;exact aT h (by decide)
    rw[ag h5] at h⊢;by_cases h6:8<=c.aq
    ·rw[ai h6] at h;exact aT h (by decide)
    rw[ag h6] at h⊢;by_cases h7:96<=many
    ·rw[ai h7] at h;exact aT h (by decide)
    rw[ag h7] at h⊢;by_cases h8:(de t d c).2≠0
    ·rw[ai h8] at h;exact aT h h8
    rw[ag h8] at h⊢;by_cases h9:(more d true (de t d c).1 (decide (has t.aq 2))).2≠0
    ·rw[ai h9] at h;exact aT h h9
    rw[ag h9] at h⊢;by_cases h10:(more c false (de t d c).1 (decide (has t.aq 2))).2≠0
    ·rw[ai h10] at h;exact aT h h10
    rw[ag h10];dsimp only;refine⟨d,c,rfl,rfl,rfl,bp.1 h1,h2,bp.1 h3,by omega,by omega,by omega,?_,?_,?_,?_⟩
    ·by_cases hh:bO<=d.dp+d.dq+(de t d c).1
     ·exfalso;apply h9;unfold more;rw[ai rfl,ai hh];exact(show(32:Int)≠0 by decide)
     ·omega
    ·by_cases hh:bO<=c.cp+c.cq+(de t d c).1
     ·exfalso;apply h10;unfold more;rw[ag cO,ai hh];exact(show(32:Int)≠0 by decide)
     ·omega
    ·intro hh;apply h9;unfold more;rw[ai rfl];by_cases h0:bO<=d.dp+d.dq+(de t d c).1
     ·rw[ai h0];exact(show(32:Int)≠0 by decide)
     ·rw[ag h0,ai hh];exact(show(33:Int)≠0 by decide)
    ·intro hh;apply h10;unfold more;rw[ag cO];by_cases h0:bO<=c.cp+c.cq+(de t d c).1
     ·rw[ai h0];exact(show(32:Int)≠0 by decide)
     ·rw[ag h0,ai hh];exact(show(34:Int)≠0 by decide)
def rS{l:List bP}(hn:(l.map (·.id)).Nodup){a:bP}(ha:a∈l):l.find? (λx=>x.id=a.id)=some a:=by
 induction l with
 |nil=>simp at ha
 |cons x l ih=>
  simp only[dx,List.nodup_cons] at hn;rcases ka.1 ha with rfl|ha
  ·simp
  ·rw[List.find?_cons];by_cases hx:x.id=a.id
   ·exact aT (cV.2 ⟨a,ha,hx.symm⟩) hn.1
   ·simp only[hx,decide_false];exact ih hn.2 ha
def Oz{a:bP}{k:cr}(h1:k.move.bI≠a.id)(h2:k.move.aU≠a.id):full [k] a=a:=by
 rw[Cl];unfold Bv Dd Bw De kO;simp[h1,h2]
def ER(a:bP)(b:Bool)(n:Nat)(p:Bool):(more a b n p).1.id=a.id/\(more a b n p).1.ay=a.ay:=by
 unfold more;split<;>split<;>(try exact⟨rfl,rfl⟩)<;>split<;>(try exact⟨rfl,rfl⟩)<;>split<;>exact⟨rfl,rfl⟩
def Ct(a:bP)(yes:Prop)[Decidable yes]:(close a yes).id=a.id/\(close a yes).ay=a.ay:=by unfold close;split<;>exact⟨rfl,rfl⟩
def Oe{d c x:bP}{t:cH}{n:Nat}{st ck:Int}(hdc:t.bI≠t.aU)(hd:d.id=t.bI)(hc:c.id=t.aU)(sf: ¬jZ t.aq)(SU:d.dp+d.dq+n<bO)(hsc:c.cp+c.cq+n<bO)(hxd:x.id=t.bI->x=d)(hxc:x.id=t.aU->x=c)
 (HM: ¬(has d.aq 2/\ja d true<n))(vX: ¬(has c.aq 4/\ja c false<n))(q1:has t.aq 64->has t.aq 2)(q2:has t.aq 128->has t.aq 2):
 (λy:bP=>if y.id=(close (more c false n (decide (has t.aq 2))).1 (has t.aq 128)).id then{close (more c false n (decide (has t.aq 2))).1 (has t.aq 128) with ay:=y.ay} else y)
  ((λy:bP=>if y.id=(close (more d true n (decide (has t.aq 2))).1 (has t.aq 64)).id then{close (more d true n (decide (has t.aq 2))).1 (has t.aq 64) with ay:=y.ay} else y) x)
 =full [⟨t,{t with a8:=n,ay:=st,iE:=ck},waits t⟩] x:=by
 have i1:(close (more d true n (decide (has t.aq 2))).1 (has t.aq 64)).id=t.bI:=by rw[(Ct _ _).1,(ER _ _ _ _).1,hd]
 have i2:(close (more c false n (decide (has t.aq 2))).1 (has t.aq 128)).id=t.aU:=by rw[(Ct _ _).1,(ER _ _ _ _).1,hc]
 have s1:(close (more d true n (decide (has t.aq 2))).1 (has t.aq 64)).ay=d.ay:=by rw[(Ct _ _).2,(ER _ _ _ _).2]
 have s2:(close (more c false n (decide (has t.aq 2))).1 (has t.aq 128)).ay=c.ay:=by rw[(Ct _ _).2,(ER _ _ _ _).2]
 have e4: ¬has t.aq 4:=λh=>sf (.inl h);have e8: ¬has t.aq 8:=λh=>sf (.inr h);dsimp only;rw[i1,i2];by_cases h1:x.id=t.bI
 ·have hx:=hxd h1;subst hx;rw[ai h1];rw[ag (show ¬t.bI=t.aU from hdc),Cl];unfold Bv Dd Bw De kO l6 waits close more;have kJ: ¬t.aU=x.id:=λh=>hdc (by rw[h,h1]);simp only[if_true,ag (show ¬bO<=x.dp+x.dq+n by omega),ag HM];by_cases hw:has t.aq 2<;>by_cases qh:has t.aq 64<;>(try exact aT (q1 qh) hw)<;>simp[hw,qh,e8,h1.symm,kJ]
 ·rw[ag h1];by_cases h2:x.id=t.aU
  ·have hx:=hxc h2;subst hx;rw[ai h2,Cl];unfold Bv Dd Bw De kO l6 waits close more;have kJ: ¬t.bI=x.id:=λh=>h1 h.symm;simp only[cM,if_false,ag (show ¬bO<=x.cp+x.cq+n by omega),ag vX];by_cases hw:has t.aq 2<;>by_cases qh:has t.aq 128<;>(try exact aT (q2 qh) hw)<;>simp[hw,qh,e8,h2.symm,kJ]
  ·rw[ag h2,Oz (λh=>h1 h.symm) (λh=>h2 h.symm)]
def Su{t:cH}(h:nL t=0)(he: ¬jZ t.aq):t.bI≠t.aU/\0<=t.aq/\t.aq<=255/\(has t.aq 64->has t.aq 2)/\(has t.aq 128->has t.aq 2):=by
 unfold nL at h;by_cases h1:t.aq<0\/255<t.aq
 ·rw[ai h1] at h;exact aT h (by decide)
 rw[ag h1] at h;have ht:jo t.aq:=by
  by_cases h2:t.id=0
  ·rw[ai h2] at h;exact aT h (by decide)
  rw[ag h2] at h;by_cases h3:t.id=bO-1
  ·rw[ai h3] at h;exact aT h (by decide)
  rw[ag h3] at h;by_cases h4: ¬jo t.aq
  ·rw[ai h4] at h;exact aT h (by decide)
  exact bp.1 h4
 have YA:∀b:Int,(b=64\/b=128)->has t.aq b->has t.aq 2:=λb hb hh=>by
  rcases ht.2.2 with h0|h0
  ·unfold has at hh;rcases hb with rfl|rfl<;>omega
  ·exact h0
 refine⟨λhdc=>?_,by omega,by omega,YA 64 (.inl rfl),YA 128 (.inr rfl)⟩;by_cases h2:t.id=0
 ·rw[ai h2] at h;exact aT h (by decide)
 rw[ag h2] at h;by_cases h3:t.id=bO-1
 ·rw[ai h3] at h;exact aT h (by decide)
 rw[ag h3] at h;by_cases h4: ¬jo t.aq
 ·rw[ai h4] at h;exact aT h (by decide)
 rw[ag h4] at h;by_cases h5:t.ay≠0\/t.iE≠0
 ·rw[ai h5] at h;exact aT h (by decide)
 rw[ag h5] at h;by_cases h6:t.cB<0\/1073741824<t.cB\/0<t.cB/\ ¬has t.aq 2
 ·rw[ai h6] at h;exact aT h (by decide)
 rw[ag h6,ag he] at h;by_cases h7:t.bI=0
 ·rw[ai h7] at h;exact aT h (by decide)
 rw[ag h7] at h;by_cases h8:t.aU=0
 ·rw[ai h8] at h;exact aT h (by decide)
 rw[ag h8,ai hdc] at h;exact aT h (by decide)
def GI{l:List cr}{a:bP}(h0:0<=a.aq)(h:(full l a).aq<8):S (vG a.id) l=0:=by
 by_cases hs:S (vG a.id) l=0
 ·exact hs
 ·exfalso;have e:(full l a).aq=a.aq%8+8:=ag hs;rw[e] at h;omega
def pK.J4{b:ba}{m:aA}(h:pK b m)(id:Nat):b.named id=m.named id:=by unfold ba.named aA.named;rw[h.ax]
def bW.Vd{m:aA}(h:bW m)(id:Nat):(m.find id).map m.full=(m.find id).map (Md.full m.ax):=by
 cases hf:m.find id with
 |none=>rfl
 |some a=>rw[fm,fm,h.full (xw hf).1]
def bW.one{m:aA}(h:bW m){id:Nat}{d:bP}(hf:(m.find id).map (Md.full m.ax)=some d){a:bP}(ha:a∈m.cW)(Ns:a.id=id):Md.full m.ax a=d:=by
 have:=rS h.ids ha;rw[Ns] at this;unfold aA.find at hf;rw[this] at hf;simpa using hf
def pK.move{b:ba}{m:aA}{t:cH}(hs:pK b m)(hg:bW m):(b.move t).1=(m.move t).1/\pK (b.move t).2 (m.move t).2/\bW (m.move t).2:=by
 have e:jI t (b.named t.id) (b.find t.bI) (b.find t.aU) b.ax.length=jI t (m.named t.id) ((m.find t.bI).map m.full) ((m.find t.aU).map m.full) m.ax.length:=by
  rw[hs.J4,hs.find,hs.find,hg.Vd,hg.Vd,hs.ax]
 unfold ba.move aA.move;dsimp only;rw[e];by_cases hr:(jI t (m.named t.id) ((m.find t.bI).map m.full) ((m.find t.aU).map m.full) m.ax.length).1≠0
 ·rw[ai hr,ai hr];exact⟨rfl,hs,hg⟩
 rw[ag hr,ag hr];have EZ:=bp.1 hr;obtain⟨d,c,hd,hc,hn,uK,sf,hlg,hfd,hfc,xr,SU,hsc,HM,vX⟩:=wk EZ;generalize (jI t (m.named t.id) ((m.find t.bI).map m.full) ((m.find t.aU).map m.full) m.ax.length).2=n at *;obtain⟨hdc,aiz,aiy,hq1,Yd⟩:=Su uK sf;rw[hg.Vd] at hd hc;have hbd:b.find t.bI=some d:=by rw[hs.find];exact hd
 have hbc:b.find t.aU=some c:=by rw[hs.find];exact hc
 obtain⟨d0,hd0,rfl⟩:=Option.map_eq_some_iff.1 hd;obtain⟨c0,hc0,rfl⟩:=Option.map_eq_some_iff.1 hc;obtain⟨Kc,HO⟩:=xw hd0;obtain⟨S7,Hq⟩:=xw hc0;refine⟨rfl,⟨?_,?_,?_,?_⟩,?_⟩
 ·unfold ba.DN;rw[hbd,hbc];show((b.aC.map _).map _)=m.cW.map (Md.full (m.ax++[_]));rw[hs.aC,sY,sY];apply jv;intro a ha;rw[Jf];exact Oe (d:=Md.full m.ax d0) (c:=Md.full m.ax c0) (x:=Md.full m.ax a) hdc HO Hq sf SU hsc (λhx=>hg.one hd ha hx) (λhx=>hg.one hc ha hx) HM vX hq1 Yd
 ·unfold ba.DN;rw[hbd,hbc];show b.ax++[(⟨t,{{t with a8:=n} with ay:=b.ay+1,iE:=b.clock},waits t⟩:cr)]=m.ax++[_];rw[hs.ax,hs.ay,hs.clock]
 ·unfold ba.DN;rw[hbd,hbc];exact hs.clock
 ·unfold ba.DN;rw[hbd,hbc];show b.ay+1=m.ay+1;rw[hs.ay]
 ·have hdz:=hg.zero d0 Kc;have hcz:=hg.zero c0 S7;have hle:∀id(k:cr),k.move.bI=t.bI->k.move.a8=n->k.move.aq=t.aq->k.fate=waits t->Bv id k+Dd id k<=if t.bI=id then n else 0:=λid k e1 e2 e3 e4=>by
   have hx:k.fate=1-> ¬l6 k:=λh1 h2=>by
    rw[e4] at h1;unfold waits at h1;by_cases h3:has t.aq 2
    ·exact h2.1 (by rw[e3];exact h3)
    ·rw[ag h3] at h1;exact aT h1 (by decide)
   unfold Bv Dd;rw[e1,e2];by_cases h1:t.bI=id
   ·by_cases h2:k.fate=1
    ·simp[h1,h2,hx h2]
    ·simp[h1,h2];split<;>omega
   ·simp[h1]
  have afl:∀id(k:cr),k.move.aU=t.aU->k.move.a8=n->k.move.aq=t.aq->k.fate=waits t->Bw id k+De id k<=if t.aU=id then n else 0:=λid k e1 e2 e3 e4=>by
   have hx:k.fate=1-> ¬l6 k:=λh1 h2=>by
    rw[e4] at h1;unfold waits at h1;by_cases h3:has t.aq 2
    ·exact h2.1 (by rw[e3];exact h3)
    ·rw[ag h3] at h1;exact aT h1 (by decide)
   unfold Bw De;rw[e1,e2];by_cases h1:t.aU=id
   ·by_cases h2:k.fate=1
    ·simp[h1,h2,hx h2]
    ·simp[h1,h2];split<;>omega
   ·simp[h1]
  refine⟨hg.zero,hg.ids,hg.oJ,?_,λk hk=>?_,λk hk=>?_,?_,λa ha=>?_,λa ha=>?_,λa ha=>?_⟩
  ·show((m.ax++[_]).map _).Nodup;rw[cF,List.nodup_append];refine⟨hg.names,by simp,λx hx y hy=>?_⟩;simp only[dx,ou,Dw] at hy;obtain⟨k,hk,rfl⟩:=cV.1 hx;intro hxy;unfold aA.named at hn;have:=ql.1 hn k hk;simp[hxy,hy] at this
  ·rcases dB.1 hk with hk|hk
   ·exact hg.vH k hk
   ·simp only[Dw] at hk;subst hk;unfold waits;by_cases h2:has t.aq 2
    ·simp only[ai h2];exact⟨by decide,by decide,by simp[h2]⟩
    ·simp only[ag h2];exact⟨by decide,by decide,by simp[h2]⟩
  ·rcases dB.1 hk with hk|hk
   ·exact hg.zj k hk
   ·simp only[Dw] at hk;subst hk;exact⟨hdc,cV.2 ⟨d0,Kc,HO⟩,cV.2 ⟨c0,S7,Hq⟩⟩
  ·show(m.ax++[_]).length<=96;rw[av,qt];omega
  ·show S (Bv a.id) (m.ax++[_])+S (Dd a.id) (m.ax++[_])<bO;rw[wW,wW];generalize hK:cr.mk t _ (waits t)=K;have h1:=hle a.id K (by rw[<-hK]) (by rw[<-hK]) (by rw[<-hK]) (by rw[<-hK]);have h2:=hg.zJ a ha;by_cases had:t.bI=a.id
   ·rw[ai had] at h1;have h3:=hg.one hd ha had.symm;rw[<-h3] at SU;have h4:=hg.zero a ha;have e1:(Md.full m.ax a).dp=a.dp+S (Bv a.id) m.ax:=rfl;have e2:(Md.full m.ax a).dq=a.dq+S (Dd a.id) m.ax:=rfl;omega
   ·rw[ag had] at h1;omega
  ·show S (Bw a.id) (m.ax++[_])+S (De a.id) (m.ax++[_])<bO;rw[wW,wW];generalize hK:cr.mk t _ (waits t)=K;have h1:=afl a.id K (by rw[<-hK]) (by rw[<-hK]) (by rw[<-hK]) (by rw[<-hK]);have h2:=hg.wz a ha;by_cases had:t.aU=a.id
   ·rw[ai had] at h1;have h3:=hg.one hc ha had.symm;rw[<-h3] at hsc;have e1:(Md.full m.ax a).cp=a.cp+S (Bw a.id) m.ax:=rfl;have e2:(Md.full m.ax a).cq=a.cq+S (De a.id) m.ax:=rfl;omega
   ·rw[ag had] at h1;omega
  ·show S (vG a.id) (m.ax++[_])<=1;rw[wW];have h2:=hg.wA a ha;generalize hK:cr.mk t _ (waits t)=K;by_cases qh:kO a.id K
   ·have h3:vG a.id K=1:=ai qh;have h0:S (vG a.id) m.ax=0:=by
     rcases qh.1 with⟨_,hh⟩|⟨_,hh⟩
     ·rw[<-hK] at hh;have:=hg.one hd ha (show a.id=t.bI from hh.symm);rw[<-this] at hfd;exact GI (hg.zero a ha).2.2.2.2.1 hfd
     ·rw[<-hK] at hh;have:=hg.one hc ha (show a.id=t.aU from hh.symm);rw[<-this] at hfc;exact GI (hg.zero a ha).2.2.2.2.1 hfc
    omega
   ·have h3:vG a.id K=0:=ag qh;omega
def modify_eq{α:Type}(f:α->α):∀(l:List α)(i:Nat)(h:i<l.length),l.modify i f=l.set i (f l[i])
 |[],i,h=>by simp at h
 |x::l,0,h=>by simp[List.modify]
 |x::l,i+1,h=>by
  have:=modify_eq f l i (by simpa using h);simp[List.modify_succ_cons,this]
def ended{l:List cr}{i:Nat}(hi:i<l.length){f:Int}(h1:l[i].fate=1)(hw:has l[i].move.aq 2)(hf:f=2\/f=3\/f=4)(id:Nat):
 S (Bv id) (l.set i {l[i] with fate:=f})+(if l[i].move.bI=id then l[i].move.a8 else 0)=S (Bv id) l/\
 S (Bw id) (l.set i {l[i] with fate:=f})+(if l[i].move.aU=id then l[i].move.a8 else 0)=S (Bw id) l/\
 S (Dd id) (l.set i {l[i] with fate:=f})=S (Dd id) l/\S (De id) (l.set i {l[i] with fate:=f})=S (De id) l/\
 S (vG id) (l.set i {l[i] with fate:=f})+(if f≠2/\(has l[i].move.aq 64/\l[i].move.bI=id\/has l[i].move.aq 128/\l[i].move.aU=id) then 1 else 0)=S (vG id) l:=by
 have a1:=Ju (Bv id) l i {l[i] with fate:=f} hi;have a2:=Ju (Bw id) l i {l[i] with fate:=f} hi;have a3:=Ju (Dd id) l i {l[i] with fate:=f} hi;have a4:=Ju (De id) l i {l[i] with fate:=f} hi;have a5:=Ju (vG id) l i {l[i] with fate:=f} hi;have b1:Bv id {l[i] with fate:=f}=0:=by unfold Bv;rw[ag (by rintro⟨hh,_⟩;dsimp only at hh;omega)]
 have b2:Bw id {l[i] with fate:=f}=0:=by unfold Bw;rw[ag (by rintro⟨hh,_⟩;dsimp only at hh;omega)]
 have b3:Dd id {l[i] with fate:=f}=Dd id l[i]:=rfl;have b4:De id {l[i] with fate:=f}=De id l[i]:=rfl;have c1:Bv id l[i]=if l[i].move.bI=id then l[i].move.a8 else 0:=by
  unfold Bv;by_cases h:l[i].move.bI=id
  ·rw[ai ⟨h1,h⟩,ai h]
  ·rw[ag (λhh=>h hh.2),ag h]
 have c2:Bw id l[i]=if l[i].move.aU=id then l[i].move.a8 else 0:=by
  unfold Bw;by_cases h:l[i].move.aU=id
  ·rw[ai ⟨h1,h⟩,ai h]
  ·rw[ag (λhh=>h hh.2),ag h]
 rw[b1,c1] at a1;rw[b2,c2] at a2;rw[b3] at a3;rw[b4] at a4;refine⟨by omega,by omega,by omega,by omega,?_⟩;by_cases qh:has l[i].move.aq 64/\l[i].move.bI=id\/has l[i].move.aq 128/\l[i].move.aU=id
 ·have d1:vG id l[i]=1:=ai ⟨qh,.inl h1⟩;by_cases E0:f=2
  ·have d2:vG id {l[i] with fate:=f}=1:=ai ⟨qh,.inr E0⟩;rw[ag (λhh=>hh.1 E0)];omega
  ·have d2:vG id {l[i] with fate:=f}=0:=ag (by rintro⟨_,hh⟩;dsimp only at hh;omega);rw[ai ⟨E0,qh⟩];omega
 ·have d1:vG id l[i]=0:=ag (λhh=>qh hh.1);have d2:vG id {l[i] with fate:=f}=0:=ag (λhh=>qh hh.1);rw[ag (λhh=>qh hh.2)];omega
def JS(d:bP)(p:cH)(n:Nat)(f:Int):(AX d p n f).id=d.id/\(AX d p n f).ay=d.ay:=by unfold AX open_;split<;>(try exact⟨rfl,rfl⟩);split<;>exact⟨rfl,rfl⟩
def JT(d:bP)(p:cH)(n:Nat)(f:Int):(BW d p n f).id=d.id/\(BW d p n f).ay=d.ay:=by unfold BW open_;split<;>(try exact⟨rfl,rfl⟩);split<;>exact⟨rfl,rfl⟩
def LA{l:List cr}{i:Nat}(hi:i<l.length){f:Int}{n:Nat}{a:bP}(h1:l[i].fate=1)(hw:has l[i].move.aq 2)(hf:f=2\/f=3\/f=4)(kJ:l[i].move.bI≠l[i].move.aU)(ha0:0<=a.aq)(ha8:a.aq<8)(qh:S (vG a.id) l<=1)
 {d c:bP}(hd:d.id=l[i].move.bI)(hc:c.id=l[i].move.aU)(hxd:a.id=l[i].move.bI->full l a=d)(hxc:a.id=l[i].move.aU->full l a=c):
 (λy:bP=>if y.id=(BW c l[i].move n f).id then{BW c l[i].move n f with ay:=y.ay} else y) ((λy:bP=>if y.id=(AX d l[i].move n f).id then{AX d l[i].move n f with ay:=y.ay} else y) (full l a))
 ={full (l.set i {l[i] with fate:=f}) a with dq:=(full l a).dq+(if f=2/\l[i].move.bI=a.id then n else 0),cq:=(full l a).cq+(if f=2/\l[i].move.aU=a.id then n else 0)}:=by
 have Ns:(full l a).id=a.id:=rfl;obtain⟨e1,e2,e3,e4,e5⟩:=ended hi h1 hw hf a.id;dsimp only;rw[(JT c _ n f).1,(JS d _ n f).1,hd,hc];generalize hk:l[i]=k at *;generalize hl:l.set i {k with fate:=f}=l' at *;by_cases R8:a.id=k.move.bI
 ·have hx:=hxd R8;rw[ai (show(full l a).id=k.move.bI by rw[Ns];exact R8),ag (show ¬k.move.bI=k.move.aU from kJ),<-hx];have abv: ¬k.move.aU=a.id:=λhh=>kJ (by rw[hh,R8]);rw[ai R8.symm] at e1;rw[ag abv] at e2;unfold AX open_ full;dsimp only;by_cases h2:f=2
  ·subst h2;simp only[if_true,true_and,R8.symm,abv,if_false,gM];rw[ag (by rintro⟨hh,_⟩;exact hh rfl)] at e5;have:S (vG a.id) l'=S (vG a.id) l:=by omega
   simp only[this,e3,e4]
   congr 1<;>omega
  ·have hb:∀p:Prop,¬(f=2/\p):=λp hh=>h2 hh.1;rw[ag h2,ag (hb _),ag (hb _)];by_cases YA:has k.move.aq 64
   ·rw[ai ⟨h2,.inl ⟨YA,R8.symm⟩⟩] at e5;have z1:S (vG a.id) l'=0:=by omega
    have z2: ¬S (vG a.id) l=0:=by omega
    simp only[z1,z2,YA,if_true,if_false,e3,e4]
    congr 1<;>omega
   ·rw[ag (by rintro⟨_,hh|hh⟩;exact YA hh.1;exact abv hh.2)] at e5;have:S (vG a.id) l'=S (vG a.id) l:=by omega
    simp only[this,YA,if_false,e3,e4]
    congr 1<;>omega
 ·rw[ag (show ¬(full l a).id=k.move.bI by rw[Ns];exact R8)];have RY: ¬k.move.bI=a.id:=λhh=>R8 hh.symm;by_cases Qx:a.id=k.move.aU
  ·have hx:=hxc Qx;rw[ai (show(full l a).id=k.move.aU by rw[Ns];exact Qx),<-hx];rw[ag RY] at e1;rw[ai Qx.symm] at e2;unfold BW open_ full;dsimp only;by_cases h2:f=2
   ·subst h2;simp only[if_true,true_and,Qx.symm,RY,if_false,gM];rw[ag (by rintro⟨hh,_⟩;exact hh rfl)] at e5;have:S (vG a.id) l'=S (vG a.id) l:=by omega
    simp only[this,e3,e4]
    congr 1<;>omega
   ·have hb:∀p:Prop,¬(f=2/\p):=λp hh=>h2 hh.1;rw[ag h2,ag (hb _),ag (hb _)];by_cases Db:has k.move.aq 128
    ·rw[ai ⟨h2,.inr ⟨Db,Qx.symm⟩⟩] at e5;have z1:S (vG a.id) l'=0:=by omega
     have z2: ¬S (vG a.id) l=0:=by omega
     simp only[z1,z2,Db,if_true,if_false,e3,e4]
     congr 1<;>omega
    ·rw[ag (by rintro⟨_,hh|hh⟩;exact RY hh.2;exact Db hh.1)] at e5;have:S (vG a.id) l'=S (vG a.id) l:=by omega
     simp only[this,Db,if_false,e3,e4]
     congr 1<;>omega
  ·rw[ag (show ¬(full l a).id=k.move.aU by rw[Ns];exact Qx)];have abw: ¬k.move.aU=a.id:=λhh=>Qx hh.symm;rw[ag RY] at e1;rw[ag abw] at e2;rw[ag (by rintro⟨_,hh|hh⟩;exact RY hh.2;exact abw hh.2)] at e5;have:S (vG a.id) l'=S (vG a.id) l:=by omega
   unfold full;simp only[this,RY,abw,and_false,if_false,gM,e3,e4]
   congr 1<;>omega
def D0{l:List cr}{p:cr->Bool}:l.find? p=(l.findIdx? p).bind λi=>l[i]?:=by
 induction l with
 |nil=>rfl
 |cons x l ih=>
  rw[List.find?_cons,List.findIdx?_cons];cases hp:p x with
  |true=>rfl
  |false=>
   simp only[ih];cases l.findIdx? p with
   |none=>rfl
   |some i=>simp
def pK.make{b:ba}{m:aA}{a:bP}(hs:pK b m)(hg:bW m):(b.make a).1=(m.make a).1/\pK (b.make a).2 (m.make a).2/\bW (m.make a).2:=by
 unfold ba.make aA.make;by_cases h1:uM a≠0
 ·rw[ai h1,ai h1];exact⟨rfl,hs,hg⟩
 rw[ag h1,ag h1,hs.find];cases hf:m.find a.id with
 |some x=>
  refine⟨?_,hs,hg⟩;show uN a (Md.full m.ax x)=uN a x;have hz:=hg.zero x (xw hf).1;unfold uN Md.full;dsimp only;have:(if S (vG x.id) m.ax=0 then x.aq else x.aq%8+8)/2%4=x.aq/2%4:=by split<;>omega
  rw[this]
 |none=>
  have hlen:b.aC.length=m.cW.length:=by rw[hs.aC,bQ]
  dsimp only[Option.map_none];rw[hlen];by_cases h2:32<=m.cW.length
  ·rw[ai h2,ai h2];exact⟨rfl,hs,hg⟩
  rw[ag h2,ag h2];have uK:=bp.1 h1;have pq:∀x∈m.cW,x.id≠a.id:=λx hx=>by
   have:=ql.1 hf x hx;simpa using this
  have hc:0<=a.aq/\a.aq<=7/\a.dp=0/\a.dq=0/\a.cp=0/\a.cq=0:=by
   unfold uM at uK;by_cases c1:a.aq<0\/7<a.aq
   ·rw[ai c1] at uK;exact aT uK (by decide)
   rw[ag c1] at uK;by_cases c2:a.id=0
   ·rw[ai c2] at uK;exact aT uK (by decide)
   rw[ag c2] at uK;by_cases c3:a.id=bO-1
   ·rw[ai c3] at uK;exact aT uK (by decide)
   rw[ag c3] at uK;by_cases c4:has a.aq 2/\has a.aq 4
   ·rw[ai c4] at uK;exact aT uK (by decide)
   rw[ag c4] at uK;by_cases c5:a.dp≠0\/a.dq≠0\/a.cp≠0\/a.cq≠0\/a.ay≠0
   ·rw[ai c5] at uK;exact aT uK (by decide)
   omega
  have z:∀k∈m.ax,k.move.bI≠a.id/\k.move.aU≠a.id:=λk hk=>by
   obtain⟨_,s1,s2⟩:=hg.zj k hk;obtain⟨x,hx,Z6⟩:=cV.1 s1;obtain⟨y,hy,hye⟩:=cV.1 s2;exact⟨λh=>pq x hx (by rw[Z6,h]),λh=>pq y hy (by rw[hye,h])⟩
  have S0:∀f:cr->Nat,(∀k∈m.ax,f k=0)->S f m.ax=0:=λf hf=>by
   have:∀l:List cr,(∀k∈l,f k=0)->S f l=0:=λl=>by
    induction l with
    |nil=>intro _;rfl
    |cons x l ih=>intro h;rw[sU,h x (by simp),ih λk hk=>h k (by simp[hk])]
   exact this _ hf
  have z1:S (Bv a.id) m.ax=0:=S0 _ λk hk=>ag (λhh=>(z k hk).1 hh.2);have z2:S (Bw a.id) m.ax=0:=S0 _ λk hk=>ag (λhh=>(z k hk).2 hh.2);have z3:S (Dd a.id) m.ax=0:=S0 _ λk hk=>ag (λhh=>(z k hk).1 hh.2);have z4:S (De a.id) m.ax=0:=S0 _ λk hk=>ag (λhh=>(z k hk).2 hh.2);have z5:S (vG a.id) m.ax=0:=S0 _ λk hk=>ag (λhh=>by
   rcases hh.1 with h|h
   ·exact(z k hk).1 h.2
   ·exact(z k hk).2 h.2)
  refine⟨rfl,⟨?_,hs.ax,hs.clock,by show b.ay+1=m.ay+1;rw[hs.ay]⟩,?_⟩
  ·show b.aC++[_]=(m.cW++[_]).map (Md.full m.ax);rw[cF,hs.aC,hs.ay]
   congr 1
   simp only[dx,ou]
   congr 1
   unfold Md.full;dsimp only;rw[z1,z2,z3,z4,z5,ai rfl];simp
  ·have key:∀x∈m.cW++[({a with ay:=m.ay+1,aq:=a.aq/2* 2}:bP)],x∈m.cW\/x={a with ay:=m.ay+1,aq:=a.aq/2* 2}:=λx hx=>by
    rcases dB.1 hx with h|h
    ·exact .inl h
    ·exact .inr (by simpa using h)
   refine⟨λx hx=>?_,?_,?_,hg.names,hg.vH,λk hk=>?_,hg.some_,λx hx=>?_,λx hx=>?_,λx hx=>?_⟩
   ·rcases key x hx with h|rfl
    ·exact hg.zero x h
    ·exact⟨hc.2.2.1,hc.2.2.2.1,hc.2.2.2.2.1,hc.2.2.2.2.2,by show 0<=a.aq/2* 2;omega,by show a.aq/2* 2<8;omega⟩
   ·show((m.cW++[_]).map _).Nodup;rw[cF,List.nodup_append];refine⟨hg.ids,by simp,λx hx y hy=>?_⟩;simp only[dx,ou,Dw] at hy;obtain⟨u,hu,rfl⟩:=cV.1 hx;rw[hy];exact pq u hu
   ·show(m.cW++[_]).length<=32;rw[av,qt];omega
   ·obtain⟨s0,s1,s2⟩:=hg.zj k hk;refine⟨s0,?_,?_⟩
    ·show _∈(m.cW++[_]).map _;rw[cF];exact List.mem_append_left _ s1
    ·show _∈(m.cW++[_]).map _;rw[cF];exact List.mem_append_left _ s2
   ·rcases key x hx with h|rfl
    ·exact hg.zJ x h
    ·show S (Bv a.id) m.ax+S (Dd a.id) m.ax<bO;rw[z1,z3];decide
   ·rcases key x hx with h|rfl
    ·exact hg.wz x h
    ·show S (Bw a.id) m.ax+S (De a.id) m.ax<bO;rw[z2,z4];decide
   ·rcases key x hx with h|rfl
    ·exact hg.wA x h
    ·show S (vG a.id) m.ax<=1;rw[z5];decide
def aA.Ux{m:aA}{id:Nat}{k:cr}(h:m.named id=some k):∃i,m.name id=some i/\∃hi:i<m.ax.length,m.ax[i]=k/\k.move.id=id:=by
 unfold aA.named at h;rw[D0] at h;unfold aA.name;cases hx:m.ax.findIdx? (λk=>decide (k.move.id=id)) with
 |none=>rw[hx] at h;cases h
 |some i=>
  rw[hx] at h;simp only[Option.bind_some] at h;obtain⟨hi,hk⟩:=ar.1 h;refine⟨i,rfl,hi,hk,?_⟩;have:=(List.findIdx?_eq_some_iff_getElem.1 hx);obtain⟨_,hp,_⟩:=this;rw[hk] at hp;simpa using hp
def aA.RF{m:aA}{id:Nat}(h:m.named id=none):m.name id=none:=by
 unfold aA.named at h;rw[D0] at h;unfold aA.name;cases hx:m.ax.findIdx? (λk=>decide (k.move.id=id)) with
 |none=>rfl
 |some i=>
  rw[hx] at h;simp only[Option.bind_some] at h;have:=(List.findIdx?_eq_some_iff_getElem.1 hx).1;rw[aj this] at h;cases h
def RE{l:List cr}(hn:(l.map (·.move.id)).Nodup){i j:Nat}(hi:i<l.length)(hj:j<l.length)(h:l[i].move.id=l[j].move.id):i=j:=by
 have e1:(l.map (·.move.id))[i]?=some (l[i].move.id):=by rw[fy,aj hi];rfl
 have e2:(l.map (·.move.id))[j]?=some (l[i].move.id):=by rw[fy,aj hj,h];rfl
 exact(List.getElem?_inj (by simpa using hi) hn).1 (e1.trans e2.symm)
def MA{l:List cr}(hn:(l.map (·.move.id)).Nodup){i:Nat}(hi:i<l.length)(h1:l[i].fate=1)(f:Int):(l.map λk=>if k.move.id=l[i].move.id/\k.fate=1 then{k with fate:=f} else k)=l.set i {l[i] with fate:=f}:=by
 apply qX;intro j;rw[fy,dk];by_cases Nr:i=j
 ·subst Nr;rw[aj hi,ai rfl,ai hi,fm,ai ⟨rfl,h1⟩]
 ·rw[ag Nr];cases hj:l[j]? with
  |none=>rfl
  |some k=>
   obtain⟨UX,hk⟩:=ar.1 hj;rw[fm,ag];rintro⟨hh,_⟩;rw[<-hk] at hh;exact Nr (RE hn hi UX hh.symm)
def rO{m:aA}{i:Nat}(hi:i<m.ax.length)(f:Int):(m.fa i f).ax=m.ax.set i {m.ax[i] with fate:=f}:=by
 unfold aA.fa;rw[modify_eq _ _ _ hi]
def bW.fa{m:aA}(hg:bW m){i:Nat}(hi:i<m.ax.length)(h1:m.ax[i].fate=1){f:Int}(hf:f=2\/f=3\/f=4):bW (m.fa i f):=by
 have hk:=rO (m:=m) hi f;have pU:=bF hi;have hw:has m.ax[i].move.aq 2:=(hg.vH _ pU).2.2.2 (by omega);have ah':(m.fa i f).cW=m.cW:=rfl;have key:∀k∈(m.fa i f).ax,∃k0∈m.ax,k.move=k0.move/\k.asked=k0.asked/\(k=k0\/k.fate=f/\k0.fate=1):=λk Qu=>by
  rw[hk] at Qu;rcases fq Qu with h|h
  ·exact⟨k,h,rfl,rfl,.inl rfl⟩
  ·subst h;exact⟨m.ax[i],pU,rfl,rfl,.inr ⟨rfl,h1⟩⟩
 refine⟨hg.zero,hg.ids,hg.oJ,?_,λk Qu=>?_,λk Qu=>?_,?_,λa ha=>?_,λa ha=>?_,λa ha=>?_⟩
 ·rw[hk,List.map_set];have:m.ax[i].move.id=(m.ax.map (·.move.id))[i]'(by simpa using hi):=by simp
  have e:(m.ax.map (·.move.id)).set i ({m.ax[i] with fate:=f}:cr).move.id=m.ax.map (·.move.id):=by
   show(m.ax.map (·.move.id)).set i m.ax[i].move.id=_;rw[this,List.set_getElem_self]
  rw[e];exact hg.names
 ·obtain⟨k0,h0,e1,e2,e3⟩:=key k Qu;have:=hg.vH k0 h0;rcases e3 with rfl|⟨e3,e4⟩
  ·exact this
  ·rw[e1];have h2:=this.2.2.2 (by omega);exact⟨by omega,by omega,λ_=>by omega,λ_=>h2⟩
 ·obtain⟨k0,h0,e1,e2,e3⟩:=key k Qu;rw[e1];exact hg.zj k0 h0
 ·rw[hk,je];exact hg.some_
 ·have:=hg.zJ a ha;obtain⟨e1,e2,e3,e4,e5⟩:=ended hi h1 hw hf a.id;rw[hk];omega
 ·have:=hg.wz a ha;obtain⟨e1,e2,e3,e4,e5⟩:=ended hi h1 hw hf a.id;rw[hk];omega
 ·have:=hg.wA a ha;obtain⟨e1,e2,e3,e4,e5⟩:=ended hi h1 hw hf a.id;rw[hk];omega
def pK.release{b:ba}{m:aA}(hs:pK b m)(hg:bW m){i:Nat}(hi:i<m.ax.length)(h1:m.ax[i].fate=1){f:Int}(hf:f=3\/f=4)(n:Nat):pK (b.release m.ax[i].move n f) (m.fa i f):=by
 have pU:=bF hi;have hw:has m.ax[i].move.aq 2:=(hg.vH _ pU).2.2.2 (by omega);obtain⟨kJ,hd,hc⟩:=hg.zj _ pU;obtain⟨d0,Kc,HO⟩:=cV.1 hd;obtain⟨c0,S7,Hq⟩:=cV.1 hc;have fd:b.find m.ax[i].move.bI=some (Md.full m.ax d0):=by
  rw[hs.find];unfold aA.find;rw[<-HO,rS hg.ids Kc];rfl
 have fc:b.find m.ax[i].move.aU=some (Md.full m.ax c0):=by
  rw[hs.find];unfold aA.find;rw[<-Hq,rS hg.ids S7];rfl
 unfold ba.release;rw[fd,fc];have hk:=rO (m:=m) hi f;refine⟨?_,?_,hs.clock,hs.ay⟩
 ·show((b.aC.map _).map _)=m.cW.map (Md.full (m.fa i f).ax);rw[hk,hs.aC,sY,sY];apply jv;intro a ha;have hz:=hg.zero a ha;have:=LA (l:=m.ax) (n:=n) (a:=a) (d:=Md.full m.ax d0) (c:=Md.full m.ax c0) hi h1 hw (.inr hf) kJ hz.2.2.2.2.1 hz.2.2.2.2.2 (hg.wA a ha) HO Hq
   (λh=>by
    have e:(m.find m.ax[i].move.bI).map (Md.full m.ax)=some (Md.full m.ax d0):=by rw[<-hs.find];exact fd
    exact hg.one e ha h)
   (λh=>by
    have e:(m.find m.ax[i].move.aU).map (Md.full m.ax)=some (Md.full m.ax c0):=by rw[<-hs.find];exact fc
    exact hg.one e ha h)
  apply Eq.trans this;have h2: ¬f=2:=by omega
  obtain⟨e1,e2,e3,e4,e5⟩:=ended hi h1 hw (.inr hf) a.id;rw[ag (λhh=>h2 hh.1),ag (λhh=>h2 hh.1)];unfold Md.full;dsimp only;rw[e3,e4]
  rfl
 ·show(b.ax.map _)=_;rw[hs.ax,hk];exact MA hg.names hi h1 f
def MF{t:cH}{named:Option cr}{k:cr}{d1 c1 d2 c2:Bool}{many:Nat}(h:has k.move.aq 2-> ¬1<k.fate->d1=d2/\c1=c2):oC t named (some k) d1 c1 many=oC t named (some k) d2 c2 many:=by
 unfold oC;split
 ·rfl
 split
 ·rfl
 split
 ·rfl
 ·dsimp only;split
  ·rfl
  rename_i h2;split
  ·rfl
  split
  ·rfl
  rename_i h3;obtain⟨e1,e2⟩:=h (bp.1 h2) h3;rw[e1,e2]
def Be{t:cH}{named:Option cr}{k:cr}{d c:Bool}{many:Nat}(h:oC t named (some k) d c many=0)(hk:0<=k.fate):named=none/\nL t=0/\jZ t.aq/\has k.move.aq 2/\ ¬1<k.fate/\ ¬my t k.move/\many<96:=by
 unfold oC at h;by_cases h1:nL t≠0
 ·rw[ai h1] at h;exact aT h h1
 rw[ag h1] at h;by_cases h2: ¬jZ t.aq
 ·rw[ai h2] at h;exact aT h (by decide)
 rw[ag h2] at h;cases named with
 |some x=>exact aT h (tJ t x.asked)
 |none=>
  dsimp only at h;by_cases h3: ¬has k.move.aq 2
  ·rw[ai h3] at h;exact aT h (by decide)
  rw[ag h3] at h;by_cases h4:fU t k.move
  ·rw[ai h4] at h;exact aT h (by decide)
  rw[ag h4] at h;by_cases h5:1<k.fate
  ·rw[ai h5] at h;omega
  rw[ag h5] at h;by_cases h6:my t k.move
  ·rw[ai h6] at h;exact aT h (by decide)
  rw[ag h6] at h;by_cases h7:has t.aq 4/\d=true
  ·rw[ai h7] at h;exact aT h (by decide)
  rw[ag h7] at h;by_cases h8:has t.aq 4/\c=true
  ·rw[ai h8] at h;exact aT h (by decide)
  rw[ag h8] at h;by_cases h9:96<=many
  ·rw[ai h9] at h;exact aT h (by decide)
  exact⟨rfl,bp.1 h1,bp.1 h2,bp.1 h3,h5,h6,by omega⟩
def MP{t:cH}(h:nL t=0)(he:jZ t.aq): ¬has t.aq 2/\(has t.aq 8↔ ¬has t.aq 4)/\ ¬has t.aq 64/\ ¬has t.aq 128:=by
 unfold nL at h;by_cases h1:t.aq<0\/255<t.aq
 ·rw[ai h1] at h;exact aT h (by decide)
 rw[ag h1] at h;by_cases h2:t.id=0
 ·rw[ai h2] at h;exact aT h (by decide)
 rw[ag h2] at h;by_cases h3:t.id=bO-1
 ·rw[ai h3] at h;exact aT h (by decide)
 rw[ag h3] at h;by_cases h4: ¬jo t.aq
 ·rw[ai h4] at h;exact aT h (by decide)
 have h4:=bp.1 h4;unfold jo at h4;unfold jZ at h4 he;obtain⟨g1,g2,g3⟩:=h4;refine⟨λh2=>?_,⟨λh8 h4=>g1 (.inr (.inr ⟨h4,h8⟩)),λh4=>he.resolve_left h4⟩,λYA=>?_,λDb=>?_⟩
 ·rcases he with he|he
  ·exact g1 (.inl ⟨h2,he⟩)
  ·exact g1 (.inr (.inl ⟨h2,he⟩))
 ·have: ¬16<=t.aq:=λhh=>g2 ⟨he,hh⟩;unfold has at YA;omega
 ·have: ¬16<=t.aq:=λhh=>g2 ⟨he,hh⟩;unfold has at Db;omega
def D6{b:ba}{m:aA}(hs:pK b m)(hg:bW m){i:Nat}(hi:i<m.ax.length)(h1:m.ax[i].fate=1){id:Nat}{F:Int}
 (Ns:id=m.ax[i].move.bI/\F=64\/id=m.ax[i].move.aU/\F=128):b.mZ id (has m.ax[i].move.aq F)=m.closed id i:=by
 have pU:=bF hi;have hw:has m.ax[i].move.aq 2:=(hg.vH _ pU).2.2.2 (by omega);obtain⟨kJ,hd,hc⟩:=hg.zj _ pU;have xt:id∈m.cW.map (·.id):=by
  rcases Ns with⟨h,_⟩|⟨h,_⟩<;>rw[h]<;>assumption
 obtain⟨a,ha,hai⟩:=cV.1 xt;have hfm:m.find id=some a:=by unfold aA.find;rw[<-hai];exact rS hg.ids ha
 have hz:=hg.zero a ha;have hg3:=hg.fa hi h1 (f:=3) (.inr (.inl rfl));have hk3:=rO (m:=m) hi 3;have hff:=hg3.full (a:=a) ha;unfold aA.full at hff;have e1:m.closed id i=decide (8<=(Md.full (m.fa i 3).ax a).aq):=by
  unfold aA.closed;rw[hfm];dsimp only;have:(m.ax.modify i λk=>{k with fate:=3})=(m.fa i 3).ax:=rfl;rw[this,hff]
 have e2:b.mZ id (has m.ax[i].move.aq F)=decide (8<=(Md.full m.ax a).aq/\ ¬has m.ax[i].move.aq F):=by
  unfold ba.mZ;rw[hs.find,hfm]
  rfl
 rw[e1,e2,decide_eq_decide];have S6:∀l,8<=(Md.full l a).aq↔S (vG a.id) l≠0:=λl=>by
  by_cases h0:S (vG a.id) l=0
  ·have:(Md.full l a).aq=a.aq:=ai h0;rw[this];exact⟨λh=>by omega,λh=>aT h0 h⟩
  ·have:(Md.full l a).aq=a.aq%8+8:=ag h0;rw[this];exact⟨λ_=>h0,λ_=>by omega⟩
 rw[S6,S6,hk3];obtain⟨_,_,_,_,e5⟩:=ended hi h1 hw (f:=3) (.inr (.inl rfl)) a.id;have qh:=hg.wA a ha;rcases Ns with⟨h,rfl⟩|⟨h,rfl⟩
 ·have R8:m.ax[i].move.bI=a.id:=by rw[hai,h]
  have Qx: ¬m.ax[i].move.aU=a.id:=λhh=>kJ (by rw[R8,hh]);by_cases hF:has m.ax[i].move.aq 64
  ·rw[ai ⟨by decide,.inl ⟨hF,R8⟩⟩] at e5;exact⟨λhh=>aT hF hh.2,λhh=>aT (show S (vG a.id) _=0 by omega) hh⟩
  ·rw[ag (by rintro⟨_,hh|hh⟩;exact hF hh.1;exact Qx hh.2)] at e5;exact⟨λhh=>by have:=hh.1;omega,λhh=>⟨by omega,hF⟩⟩
 ·have Qx:m.ax[i].move.aU=a.id:=by rw[hai,h]
  have R8: ¬m.ax[i].move.bI=a.id:=λhh=>kJ (by rw[hh,Qx]);by_cases hF:has m.ax[i].move.aq 128
  ·rw[ai ⟨by decide,.inr ⟨hF,Qx⟩⟩] at e5;exact⟨λhh=>aT hF hh.2,λhh=>aT (show S (vG a.id) _=0 by omega) hh⟩
  ·rw[ag (by rintro⟨_,hh|hh⟩;exact R8 hh.2;exact hF hh.1)] at e5;exact⟨λhh=>by have:=hh.1;omega,λhh=>⟨by omega,hF⟩⟩
def pK.pE{b:ba}{m:aA}{t:cH}(hs:pK b m)(hg:bW m):(b.pE t).1=(m.pE t).1/\pK (b.pE t).2 (m.pE t).2/\bW (m.pE t).2:=by
 unfold ba.pE aA.pE;rw[hs.J4,hs.J4,hs.ax];cases hp:m.named t.pending with
 |none=>
  rw[aA.RF hp];exact⟨rfl,hs,hg⟩
 |some k=>
  obtain⟨i,hn,hi,hk,_⟩:=aA.Ux hp;rw[hn];dsimp only;rw[aj hi,hk];dsimp only;have pU:k∈m.ax:=by rw[<-hk];exact bF hi
  have hft:=hg.vH k pU;have adI:oC t (m.named t.id) (some k) (b.mZ k.move.bI (has k.move.aq 64)) (b.mZ k.move.aU (has k.move.aq 128)) m.ax.length=oC t (m.named t.id) (some k) (m.closed k.move.bI i) (m.closed k.move.aU i) m.ax.length:=by
   refine MF (λh2 h3=>?_);have h1:m.ax[i].fate=1:=by rw[hk];have:=hft.2.2.1 h2;omega
   have c1:=D6 hs hg hi h1 (id:=k.move.bI) (F:=64) (by rw[hk];exact .inl ⟨rfl,rfl⟩);have c2:=D6 hs hg hi h1 (id:=k.move.aU) (F:=128) (by rw[hk];exact .inr ⟨rfl,rfl⟩);rw[hk] at c1 c2;exact⟨c1,c2⟩
  rw[adI];by_cases hr:oC t (m.named t.id) (some k) (m.closed k.move.bI i) (m.closed k.move.aU i) m.ax.length≠0
  ·rw[ai hr,ai hr];exact⟨rfl,hs,hg⟩
  rw[ag hr,ag hr];obtain⟨Qs,uK,sf,hw,hfa,Ay,xr⟩:=Be (bp.1 hr) hft.1;have h1:m.ax[i].fate=1:=by rw[hk];have:=hft.2.2.1 hw;omega
  obtain⟨f2,f8,f64,f128⟩:=MP uK sf;have hf:dP t=2\/dP t=3:=by unfold dP;split<;>simp
  have hf':dP t=2\/dP t=3\/dP t=4:=by rcases hf with h|h<;>simp[h]
  have E0:dP t=2↔has t.aq 4:=by unfold dP;split<;>simp_all
  have Nu:=hg.fa hi h1 hf';have Yk:=rO (m:=m) hi (dP t);obtain⟨kJ,hd,hc⟩:=hg.zj k pU;obtain⟨d0,Kc,HO⟩:=cV.1 hd;obtain⟨c0,S7,Hq⟩:=cV.1 hc;have fd:b.find k.move.bI=some (Md.full m.ax d0):=by
   rw[hs.find];unfold aA.find;rw[<-HO,rS hg.ids Kc];rfl
  have fc:b.find k.move.aU=some (Md.full m.ax c0):=by
   rw[hs.find];unfold aA.find;rw[<-Hq,rS hg.ids S7];rfl
  have r1:∀id st ck,Bv id ⟨t,{ny t k.move with ay:=st,iE:=ck},0⟩=0:=λid st ck=>ag (λhh=>aT hh.1 (show ¬(0:Int)=1 by decide));have r2:∀id st ck,Bw id ⟨t,{ny t k.move with ay:=st,iE:=ck},0⟩=0:=λid st ck=>ag (λhh=>aT hh.1 (show ¬(0:Int)=1 by decide));have rp:∀st ck,l6 ⟨t,{ny t k.move with ay:=st,iE:=ck},0⟩↔dP t=2:=λst ck=>by
   rw[E0];show(¬has t.aq 2/\ ¬has t.aq 8)↔_
   constructor
   ·rintro⟨_,hh⟩;by_cases h4:has t.aq 4
    ·exact h4
    ·exact aT (f8.2 h4) hh
   ·intro h4;exact⟨f2,λh8=>f8.1 h8 h4⟩
  have r3:∀id st ck,Dd id ⟨t,{ny t k.move with ay:=st,iE:=ck},0⟩=if dP t=2/\k.move.bI=id then dD t k.move else 0:=λid st ck=>by
   unfold Dd;by_cases h:dP t=2/\k.move.bI=id
   ·rw[ai h,ai ⟨(rp st ck).2 h.1,h.2⟩];rfl
   ·rw[ag h,ag (λhh=>h ⟨(rp st ck).1 hh.1,hh.2⟩)]
  have r4:∀id st ck,De id ⟨t,{ny t k.move with ay:=st,iE:=ck},0⟩=if dP t=2/\k.move.aU=id then dD t k.move else 0:=λid st ck=>by
   unfold De;by_cases h:dP t=2/\k.move.aU=id
   ·rw[ai h,ai ⟨(rp st ck).2 h.1,h.2⟩];rfl
   ·rw[ag h,ag (λhh=>h ⟨(rp st ck).1 hh.1,hh.2⟩)]
  have r5:∀id st ck,vG id ⟨t,{ny t k.move with ay:=st,iE:=ck},0⟩=0:=λid st ck=>ag (λhh=>by
   rcases hh.1 with h|h
   ·exact f64 h.1
   ·exact f128 h.1)
  have Yw:dP t=2->dD t k.move<=k.move.a8:=λh2=>by
   have h4:=E0.1 h2;by_cases cn:k.move.a8<dD t k.move
   ·exact aT (.inl ⟨h4,cn⟩) Ay
   ·omega
  refine⟨rfl,⟨?_,?_,?_,?_⟩,?_⟩
  ·unfold ba.release;rw[fd,fc];show((b.aC.map _).map _)=m.cW.map (Md.full ((m.fa i (dP t)).ax++[_]));rw[Yk,hs.aC,sY,sY];apply jv;intro a ha;have hz:=hg.zero a ha;have:=LA (l:=m.ax) (n:=dD t k.move) (a:=a) (d:=Md.full m.ax d0) (c:=Md.full m.ax c0) hi h1 (by rw[hk];exact hw) hf' (by rw[hk];exact kJ) hz.2.2.2.2.1 hz.2.2.2.2.2 (hg.wA a ha) (by rw[hk];exact HO) (by rw[hk];exact Hq)
    (λh=>by
     rw[hk] at h
     have e:(m.find k.move.bI).map (Md.full m.ax)=some (Md.full m.ax d0):=by rw[<-hs.find];exact fd
     exact hg.one e ha h)
    (λh=>by
     rw[hk] at h
     have e:(m.find k.move.aU).map (Md.full m.ax)=some (Md.full m.ax c0):=by rw[<-hs.find];exact fc
     exact hg.one e ha h)
   rw[hk] at this;apply Eq.trans this;obtain⟨e1,e2,e3,e4,e5⟩:=ended hi h1 (by rw[hk];exact hw) hf' a.id;rw[hk] at e3 e4;rw[Jf,Cl,r1,r2,r3,r4,hk];have Ns:(Md.full (m.ax.set i {k with fate:=dP t}) a).id=a.id:=rfl;rw[Ns];have afj: ¬kO a.id ⟨t,{ny t k.move with ay:=(m.fa i (dP t)).ay+1,iE:=(m.fa i (dP t)).clock},0⟩:=λhh=>by
    rcases hh.1 with h|h
    ·exact f64 h.1
    ·exact f128 h.1
   rw[ag afj];have q1:(Md.full m.ax a).dq=a.dq+S (Dd a.id) m.ax:=rfl;have q2:(Md.full m.ax a).cq=a.cq+S (De a.id) m.ax:=rfl;rw[q1,q2,<-e3,<-e4]
   rfl
  ·unfold ba.release;rw[fd,fc];show(b.ax.map _)++[_]=(m.fa i (dP t)).ax++[_];have hms:(m.fa i (dP t)).ay=m.ay:=rfl;have hmc:(m.fa i (dP t)).clock=m.clock:=rfl;rw[Yk,hs.ax,hms,hmc]
   congr 1
   ·have:=MA hg.names hi h1 (dP t);rw[hk] at this⊢;exact this
   ·show[(⟨t,{ny t k.move with ay:=b.ay+1,iE:=b.clock},0⟩:cr)]=_;rw[hs.ay,hs.clock]
  ·unfold ba.release;rw[fd,fc];exact hs.clock
  ·unfold ba.release;rw[fd,fc];show b.ay+1=m.ay+1;rw[hs.ay]
  ·refine⟨Nu.zero,Nu.ids,Nu.oJ,?_,λx hx=>?_,λx hx=>?_,?_,λa ha=>?_,λa ha=>?_,λa ha=>?_⟩
   ·show(((m.fa i (dP t)).ax++[_]).map _).Nodup;rw[cF,List.nodup_append];refine⟨Nu.names,by simp,λx hx y hy=>?_⟩;simp only[dx,ou,Dw] at hy;rw[Yk,List.map_set] at hx;have e:(m.ax.map (·.move.id)).set i ({m.ax[i] with fate:=dP t}:cr).move.id=m.ax.map (·.move.id):=by
     have:m.ax[i].move.id=(m.ax.map (·.move.id))[i]'(by simpa using hi):=by simp
     show(m.ax.map (·.move.id)).set i m.ax[i].move.id=_;rw[this,List.set_getElem_self]
    rw[e] at hx;obtain⟨z,hz,rfl⟩:=cV.1 hx;intro hxy;unfold aA.named at Qs;have:=ql.1 Qs z hz;rw[hy] at hxy;have h5:z.move.id=t.id:=hxy;simp[h5] at this
   ·rcases dB.1 hx with hx|hx
    ·exact Nu.vH x hx
    ·simp only[Dw] at hx;subst hx;refine⟨by show(0:Int)<=0;decide,by show(0:Int)<=4;decide,?_⟩;show has t.aq 2↔(1:Int)<=0;exact⟨λh=>aT h f2,λh=>aT h (by decide)⟩
   ·rcases dB.1 hx with hx|hx
    ·exact Nu.zj x hx
    ·simp only[Dw] at hx;subst hx;exact⟨kJ,hd,hc⟩
   ·show((m.fa i (dP t)).ax++[_]).length<=96;rw[av,qt,Yk,je];omega
   ·show S (Bv a.id) ((m.fa i (dP t)).ax++[_])+S (Dd a.id) ((m.fa i (dP t)).ax++[_])<bO;rw[wW,wW,r1,r3,Yk];obtain⟨e1,e2,e3,e4,e5⟩:=ended hi h1 (by rw[hk];exact hw) hf' a.id;have:=hg.zJ a ha;rw[hk] at e1 e3;rw[hk];by_cases hq:dP t=2/\k.move.bI=a.id
    ·have:=Yw hq.1;rw[ai hq.2] at e1;rw[ai hq];omega
    ·rw[ag hq];omega
   ·show S (Bw a.id) ((m.fa i (dP t)).ax++[_])+S (De a.id) ((m.fa i (dP t)).ax++[_])<bO;rw[wW,wW,r2,r4,Yk];obtain⟨e1,e2,e3,e4,e5⟩:=ended hi h1 (by rw[hk];exact hw) hf' a.id;have:=hg.wz a ha;rw[hk] at e2 e4;rw[hk];by_cases hq:dP t=2/\k.move.aU=a.id
    ·have:=Yw hq.1;rw[ai hq.2] at e2;rw[ai hq];omega
    ·rw[ag hq];omega
   ·show S (vG a.id) ((m.fa i (dP t)).ax++[_])<=1;rw[wW,r5,Yk];obtain⟨e1,e2,e3,e4,e5⟩:=ended hi h1 (by rw[hk];exact hw) hf' a.id;have:=hg.wA a ha;rw[hk] at e5;rw[hk];omega
def pK.rI{b:ba}{m:aA}{t:cH}(hs:pK b m)(hg:bW m):(b.rI t).1=(m.rI t).1/\pK (b.rI t).2 (m.rI t).2/\bW (m.rI t).2:=by
 unfold ba.rI aA.rI;split
 ·exact hs.pE hg
 ·exact hs.move hg
def MB{m:aA}{i:Nat}(hi:i<m.ax.length)(clock:Int):((m.fa i 4).ax.map λk=>if nH clock k then{k with fate:=4} else k)=(m.ax.map λk=>if nH clock k then{k with fate:=4} else k)\/ ¬nH clock m.ax[i]:=by
 by_cases ho:nH clock m.ax[i]
 ·left
  rw[rO hi];apply qX;intro j;rw[fy,fy,dk];by_cases Nr:i=j
  ·subst Nr;rw[ai rfl,ai hi,aj hi,fm,fm,ai ho];rw[ag (by rintro⟨hh,_⟩;exact aT hh (show ¬(4:Int)=1 by decide))]
  ·rw[ag Nr]
 ·exact .inr ho
def MC{m:aA}{clock:Int}(h:∀k∈m.ax,¬nH clock k):(m.ax.map λk=>if nH clock k then{k with fate:=4} else k)=m.ax:=by
 have:m.ax.map (λk=>if nH clock k then{k with fate:=4} else k)=m.ax.map id:=jv λk hk=>ag (h k hk);rw[this,List.map_id]
section
variable {α σ τ:Type}
def cy(linked:α->Bool):List α->Nat×Bool
 |[]=>(0,false)
 |x::l=>if linked x then((cy linked l).1+1,(cy linked l).2) else(1,true)
def iw(f:σ->α->Int×σ):σ->List α->Nat->Option (Nat×Int)×σ
 |s,[],_=>(none,s)
 |s,x::l,i=>if(f s x).1≠0 then(some (i,(f s x).1),s) else iw f (f s x).2 l (i+1)
def ln(n:Nat):Option (Nat×Int)->List Int
 |none=>bw n 0
 |some (i,c)=>(bw n 1).set i c
def iu(f:σ->α->Int×σ)(linked:α->Bool):Nat->σ->List α->List Int×σ
 |0,s,_=>([],s)
 |_+1,s,[]=>([],s)
 |fuel+1,s,x::l=>
  if(cy linked (x::l)).2=false then(ln (cy linked (x::l)).1 (some ((cy linked (x::l)).1-1,2)),s)
  else match iw f s ((x::l).take (cy linked (x::l)).1) 0 with
   |(none,s')=>(ln (cy linked (x::l)).1 none++(iu f linked fuel s' ((x::l).drop (cy linked (x::l)).1)).1,(iu f linked fuel s' ((x::l).drop (cy linked (x::l)).1)).2)
   |(some e,_)=>(ln (cy linked (x::l)).1 (some e)++(iu f linked fuel s ((x::l).drop (cy linked (x::l)).1)).1,(iu f linked fuel s ((x::l).drop (cy linked (x::l)).1)).2)
def Jl{f:σ->α->Int×σ}{g:τ->α->Int×τ}{R:σ->τ->Prop}(h:∀s t x,R s t->(f s x).1=(g t x).1/\R (f s x).2 (g t x).2):
 ∀(l:List α)(s:σ)(t:τ)(i:Nat),R s t->(iw f s l i).1=(iw g t l i).1/\((iw f s l i).1=none->R (iw f s l i).2 (iw g t l i).2)
 |[],s,t,i,hr=>⟨rfl,λ_=>hr⟩
 |x::l,s,t,i,hr=>by
  obtain⟨h1,h2⟩:=h s t x hr;unfold iw;rw[h1];by_cases h0:(g t x).1≠0
  ·rw[ai h0,ai h0];exact⟨rfl,λhh=>by cases hh⟩
  ·rw[ag h0,ag h0];exact Jl h l _ _ _ h2
def BS{f:σ->α->Int×σ}{g:τ->α->Int×τ}{R:σ->τ->Prop}(linked:α->Bool)(h:∀s t x,R s t->(f s x).1=(g t x).1/\R (f s x).2 (g t x).2):
 ∀(n:Nat)(l:List α)(s:σ)(t:τ),R s t->(iu f linked n s l).1=(iu g linked n t l).1/\R (iu f linked n s l).2 (iu g linked n t l).2
 |0,l,s,t,hr=>⟨rfl,hr⟩
 |n+1,[],s,t,hr=>⟨rfl,hr⟩
 |n+1,x::l,s,t,hr=>by
  unfold iu;by_cases hw:(cy linked (x::l)).2=false
  ·rw[ai hw,ai hw];exact⟨rfl,hr⟩
  rw[ag hw,ag hw];obtain⟨e1,e2⟩:=Jl h ((x::l).take (cy linked (x::l)).1) s t 0 hr;cases hf:iw f s ((x::l).take (cy linked (x::l)).1) 0 with
  |mk o s'=>
   cases hg:iw g t ((x::l).take (cy linked (x::l)).1) 0 with
   |mk o' t'=>
    rw[hf,hg] at e1 e2;dsimp only at e1 e2;subst e1;cases o with
    |none=>
     obtain⟨i1,i2⟩:=BS linked h n ((x::l).drop (cy linked (x::l)).1) s' t' (e2 rfl);dsimp only;rw[i1];exact⟨rfl,i2⟩
    |some e=>
     obtain⟨i1,i2⟩:=BS linked h n ((x::l).drop (cy linked (x::l)).1) s t hr;dsimp only;rw[i1];exact⟨rfl,i2⟩
end
end Go.Md
namespace Go.Up
open Go.Sep Go.Den Go.RowKit Go.Prog Go.Md Go.cG
abbrev ba:=Go.Md.ba
structure AG(a:bP):Prop where
 ok:yJ a
 zE:nr a
 aq:0<=a.aq/\a.aq<16
 ay:0<=a.ay/\a.ay<1000
structure KG(k:cr):Prop where
 asked:yF k.asked
 move:yF k.move
 OZ:kH k.asked
 P5:kH k.move
 vQ:0<=k.asked.aq/\k.asked.aq<256
 xk:0<=k.move.aq/\k.move.aq<256
 fate:0<=k.fate/\k.fate<=4
 cB:0<=k.move.cB/\k.move.cB<=1073741824
 iE:0<=k.move.iE/\k.move.iE<=1099511627776
structure eB(b:ba):Prop where
 ids:(b.aC.map (·.id)).Nodup
 names:(b.ax.map (·.move.id)).Nodup
 oJ:b.aC.length<=32
 many:b.ax.length<=96
 Tc:∀a∈b.aC,AG a
 SR:∀k∈b.ax,KG k
 rising:b.ax.Pairwise λx y=>x.move.ay<y.move.ay
 dJ:∀k∈b.ax,1<=k.move.ay/\k.move.ay<=b.ay
 clock:0<=b.clock/\b.clock<=1099511627776
 ay:b.ay=b.aC.length+b.ax.length
def idxOf{α:Type}(key:α->Nat)(l:List α):(Nat->Option Int)×Nat:=(λid=>(l.findIdx? λx=>key x=id).map Int.ofNat,l.length)
section
variable {α:Type} {key:α->Nat} {l:List α} {x y:α} {i id:Nat}
def xq(h:l.findIdx? (λx=>key x=id)=some i):∃hi:i<l.length,key l[i]=id/\l.find? (λx=>key x=id)=some l[i]:=by
 obtain⟨hi,h1,h2⟩:=List.findIdx?_eq_some_iff_getElem.1 h;refine⟨hi,by simpa using h1,?_⟩;rw[List.find?_eq_some_iff_getElem];exact⟨h1,i,hi,rfl,λj hj=>by simpa using h2 j hj⟩
def Ce(h:l.findIdx? (λx=>key x=id)=none):l.find? (λx=>key x=id)=none:=by
 rw[List.findIdx?_eq_none_iff] at h;rw[ql];intro a ha;have:=h a ha;simpa using this
def rz(h:l.find? (λx=>key x=id)=none):l.findIdx? (λx=>key x=id)=none:=by
 rw[ql] at h;rw[List.findIdx?_eq_none_iff];intro a ha;have:=h a ha;simpa using this
def Cd(h:l.find? (λa=>key a=key x)=none):idxOf key (l++[x])=(xK (idxOf key l).1 (key x) (some (l.length:Int)),(idxOf key l).2+1):=by
 unfold idxOf;refine Prod.ext ?_ (by simp)
 funext id
 dsimp only[xK];rw[List.findIdx?_append];by_cases e:id=key x
 ·subst e;rw[ai rfl,rz h];simp
 ·rw[ag e];have:List.findIdx? (λa=>decide (key a=id)) [x]=none:=by simp;exact λh=>e h.symm
  rw[this];cases l.findIdx? λx=>decide (key x=id)<;>simp
def Ql(hi:i<l.length)(hk:key x=key l[i]):idxOf key (l.set i x)=idxOf key l:=by
 unfold idxOf;refine Prod.ext ?_ (by simp)
 funext id
 dsimp only
 congr 1
 have ae9:∀(l:List α)(i:Nat)(hi:i<l.length),key x=key l[i]->(l.set i x).findIdx? (λx=>key x=id)=l.findIdx? λx=>key x=id:=by
  intro l
  induction l with
  |nil=>intro i hi;simp at hi
  |cons a l ih=>
   intro i hi hk;cases i with
   |zero=>simp only[List.set_cons_zero,List.findIdx?_cons];simp at hk;rw[hk]
   |succ i=>simp only[nN,List.findIdx?_cons];rw[ih i (by simpa using hi) (by simpa using hk)]
 exact ae9 l i hi hk
def Ad(hn:(l.map key).Nodup)(hi:i<l.length):l.findIdx? (λx=>key x=key l[i])=some i:=by
 rw[List.findIdx?_eq_some_iff_getElem];refine⟨hi,by simp,λj hj=>?_⟩;have cn:j<l.length:=by omega
 have:=kC.1 hn j i (by simpa using cn) (by simpa using hi) hj;simpa using this
def map_set(hn:(l.map key).Nodup)(hi:i<l.length)(g:α->α):(l.map λx=>if key x=key l[i] then g x else x)=l.set i (g l[i]):=by
 apply List.ext_getElem (by simp);intro j h1 h2;simp only[bQ] at h1;rw[List.getElem_map,List.getElem_set];by_cases e:i=j
 ·subst e;simp
 ·rw[ag e,ag];intro hk;have a:=Ad hn h1;rw[hk,Ad hn hi] at a;exact e (bA.inj a)
end
def fB:Nat->List cr->List oG
 |_,[]=>[]
 |i,k::l=>(k.move.ay,(i:Int))::fB (i+1) l
def mL:∀(i:Nat)(l:List cr),(fB i l).length=l.length
 |_,[]=>rfl
 |i,k::l=>by simp[fB,mL (i+1) l]
def mM:∀(i:Nat)(l:List cr)(j:Nat),(fB i l)[j]?=(l[j]?).map λk=>(k.move.ay,((i+j:Nat):Int))
 |_,[],j=>by simp[fB]
 |i,k::l,0=>by simp[fB]
 |i,k::l,j+1=>by simp only[fB,bX,mM (i+1) l j];rw[show i+1+j=i+(j+1) by omega]
def wL:∀(i:Nat)(l:List cr)(k:cr),fB i (l++[k])=fB i l++[(k.move.ay,((i+l.length:Nat):Int))]
 |i,[],k=>by simp[fB]
 |i,x::l,k=>by simp only[lY,fB,wL (i+1) l k];simp;omega
def BH{i:Nat}{l:List cr}{x:oG}(h:x∈fB i l):∃k∈l,x.1=k.move.ay:=by
 obtain⟨j,hj⟩:=qW h;rw[mM] at hj;cases hk:l[j]? with
 |none=>rw[hk] at hj;cases hj
 |some k=>rw[hk] at hj;cases hj;exact⟨k,cD hk,rfl⟩
def JN{l:List cr}{j:Nat}{k:cr}(i:Nat)(hj:j<l.length)(hk:k.move.ay=l[j].move.ay):fB i (l.set j k)=fB i l:=by
 apply qX;intro n;rw[mM,mM,dk];by_cases e:j=n
 ·subst e;rw[ai rfl,ai hj,aj hj];simp[hk]
 ·rw[ag e]
def gn(k:cr):Option Item:=if k.fate=1/\0<k.move.cB then some ⟨k.move.iE+k.move.cB,k.move.ay,k.move.id⟩ else none
abbrev J7(l:List bP):=idxOf (λx:bP=>x.id) l
abbrev Ho(l:List cr):=idxOf (λx:cr=>x.move.id) l
def fS(b:ba):C:=⟨b.aC,b.ax,J7 b.aC,Ho b.ax,fB 0 b.ax,b.ax.filterMap gn,b.clock,b.ay⟩
def sg{k:cr}{x:Item}(h:gn k=some x):x.ay=k.move.ay/\x.id=k.move.id/\x.due=k.move.iE+k.move.cB/\k.fate=1/\0<k.move.cB:=by
 unfold gn at h;split at h
 ·rename_i hc;cases h;exact⟨rfl,rfl,rfl,hc⟩
 ·cases h
section
variable {b:ba}
def eB.zn(h:eB b):tM (fB 0 b.ax):=by
 unfold tM;rw[kC];intro i j hi hj Nr;have vV:i<b.ax.length:=by simpa [mL] using hi
 have Nq:j<b.ax.length:=by simpa [mL] using hj
 have e1:=mM 0 b.ax i;have e2:=mM 0 b.ax j;rw[aj hi,aj vV] at e1;rw[aj hj,aj Nq] at e2;have e1:=bA.inj e1;have e2:=bA.inj e2;rw[e1,e2];exact kC.1 h.rising i j vV Nq Nr
def Co(b:ba):(b.ax.filterMap gn).length<=b.ax.length:=List.length_filterMap_le _ _
def eB.Q9(h:eB b){i j:Nat}(hi:i<b.ax.length)(hj:j<b.ax.length)(he:b.ax[i].move.ay=b.ax[j].move.ay):i=j:=by
 rcases Nat.lt_trichotomy i j with h1|h1|h1
 ·have:=kC.1 h.rising i j hi hj h1;omega
 ·exact h1
 ·have:=kC.1 h.rising j i hj hi h1;omega
def eB.Vi(h:eB b){i:Nat}(hi:i<b.ax.length){k:cr}(hk:gn k=none){x:Item}(hx:gn b.ax[i]=some x):
 (x::(b.ax.set i k).filterMap gn).Perm (b.ax.filterMap gn)/\∀y∈(b.ax.set i k).filterMap gn,y.ay≠x.ay:=by
 constructor
 ·have key:∀(l:List cr)(i:Nat)(hi:i<l.length),gn l[i]=some x->(x::(l.set i k).filterMap gn).Perm (l.filterMap gn):=by
   intro l
   induction l with
   |nil=>intro i hi;simp at hi
   |cons a l ih=>
    intro i hi hx;cases i with
    |zero=>
     simp only[List.set_cons_zero,List.getElem_cons_zero] at hx⊢;rw[List.filterMap_cons_none hk,List.filterMap_cons_some hx]
    |succ i=>
     simp only[nN,List.getElem_cons_succ] at hx⊢;have:=ih i (by simpa using hi) hx;cases ha:gn a with
     |none=>rw[List.filterMap_cons_none ha,List.filterMap_cons_none ha];exact this
     |some y=>rw[List.filterMap_cons_some ha,List.filterMap_cons_some ha];exact(cf.swap _ _ _).trans (this.cons y)
  exact key _ i hi hx
 ·intro y hy he;obtain⟨a,ha,hay⟩:=List.mem_filterMap.1 hy;obtain⟨j,hj⟩:=qW ha;rw[dk] at hj;by_cases e:i=j
  ·subst e;rw[ai rfl,ai hi] at hj;cases hj;rw[hk] at hay;cases hay
  ·rw[ag e] at hj;have UX:=(ar.1 hj).1;have s1:=(sg hay).1;have s2:=(sg hx).1;have hja:b.ax[j]=a:=by rw[aj UX] at hj;exact bA.inj hj
   exact e (h.Q9 hi UX (by rw[hja];omega))
def HV{l:List cr}{i:Nat}(hi:i<l.length){k:cr}(hk:gn k=none)(hx:gn l[i]=none):(l.set i k).filterMap gn=l.filterMap gn:=by
 induction l generalizing i with
 |nil=>simp at hi
 |cons a l ih=>
  cases i with
  |zero=>simp only[List.set_cons_zero,List.getElem_cons_zero] at hx⊢;rw[List.filterMap_cons_none hk,List.filterMap_cons_none hx]
  |succ i=>
   simp only[nN,List.getElem_cons_succ] at hx⊢;rw[List.filterMap_cons,List.filterMap_cons,ih (by simpa using hi) hx]
end
def Ext(c:C)(hs:List C)(c':C)(fF:List C)(n:Nat):Prop:=∃abi,fF=abi++hs/\(c'::abi).getLast?=some c/\abi.length<=n
def Ext.refl(c:C)(hs:List C)(n:Nat):Ext c hs c hs n:=⟨[],rfl,rfl,aF _⟩
def Ext.trans{c c' c'':C}{hs fF yY:List C}{n m:Nat}(h1:Ext c hs c' fF n)(h2:Ext c' fF c'' yY m):Ext c hs c'' yY (n+m):=by
 obtain⟨m1,rfl,h3,h4⟩:=h1;obtain⟨m2,rfl,h5,h6⟩:=h2;refine⟨m2++m1,by simp,?_,by simp;omega⟩;cases m1 with
 |nil=>simp at h3;subst h3;simpa using h5
 |cons a m1=>
  rw[List.getLast?_cons_cons] at h3;rw[<-lY,List.getLast?_append,h3];rfl
def Ext.mono{c c':C}{hs fF:List C}{n m:Nat}(h:Ext c hs c' fF n)(hm:n<=m):Ext c hs c' fF m:=by
 obtain⟨m1,h1,h3,h4⟩:=h;exact⟨m1,h1,h3,by omega⟩
def Ext.len{c c':C}{hs fF:List C}{n:Nat}(h:Ext c hs c' fF n):fF.length<=hs.length+n:=by
 obtain⟨m1,rfl,h3,h4⟩:=h;simp;omega
def Ext.back{c c':C}{hs fF:List C}{n:Nat}(h:Ext c hs c' fF n):vP hs.length c' fF=(c,hs):=by
 obtain⟨m1,rfl,h3,-⟩:=h
 induction m1 generalizing c' with
 |nil=>simp at h3;subst h3;exact Ea (aI _)
 |cons a m1 ih=>
  rw[List.getLast?_cons_cons] at h3;rw[lY];unfold vP;rw[ai (by simp)];exact ih h3
def cL(p:Nat)(x:ba×List C):HP:=G9 (eB x.1) (cP p (fS x.1,x.2))
section
variable {W:World} {L R:LH} {K:VK} {X:WK} {p:Nat} {b:ba} {hs:List C} {f:ba×List C->LH} {id:Nat} {a old:bP}
def Nh[i:Lc (cL p) L (b,hs) f](h:∀la lk ti tn vs bx R,eB b->kz p la lk bx vs hs (fS b)->
 (∀M b' fF Hm o0 Y,eB b'->kz p la lk o0 Hm fF (fS b')->T W (M++f (b',fF)) Y->T W (M++gY p (gK la lk ti tn Hm (fS b'))::tq aO 14 la (p,(fS b').aC)::tq bM 33 lk (p,(fS b').ax)::pL ti (fS b').qj::pL tn (fS b').ix::wV o0::R) Y)->
 T W (gY p (gK la lk ti tn vs (fS b))::tq aO 14 la (p,(fS b).aC)::tq bM 33 lk (p,(fS b).ax)::pL ti (fS b).qj::pL tn (fS b).ix::wV bx::R) X):T W L X:=
 ED (P:=cL p) λR qh w hw=>by
  obtain⟨hg,hw⟩:=hw.and;refine VF (λla lk ti tn vs bx hc=>h la lk ti tn vs bx R hg hc λM b' fF Hm o0 Y Yn Mu hy=>?_) w hw;refine T.perm (E7 (R:=M++R) Mu (T.perm ?_ iM.symm)) (by
   have:=bG (l₁:=M) (l₂:=[gY p (gK la lk ti tn Hm (fS b')),tq aO 14 la (p,(fS b').aC),tq bM 33 lk (p,(fS b').ax),pL ti (fS b').qj,pL tn (fS b').ix,wV o0])|>.append_right R
   simpa using this)
  refine λw' SS=>qh M (b',fF) Y hy w' ?_;have:=(SS.perm iM);exact(St.and_intro Yn this).perm iM.symm
def qZ[i:Lc (cL p) L (b,hs) f](h:eB b->T W L X):T W L X:=λw hw=>by
 obtain⟨k,hk,_⟩:=i.at_;exact h ((hw.focus hk).and).1 w hw
def Hl{f1:Core->LH}{f2:Nat×List bP->LH}{f3:(Nat->Option Int)×Nat->LH}{q:Core}[i1:Lc (gY p) L q f1][i2:Lc (tq aO 14 q.la) L (p,b.aC) f2][i3:Lc (pL q.ti) L (J7 b.aC) f3](oJ:b.aC.length<=32)
 (h:T W L (K (.tuple ⟨[.agg ⟨aO ((b.find id).getD zA)⟩,.b (b.find id).isSome]⟩))):T W L (dW (ah p) (nm id) K):=by
 unfold dW;apply ws;intros;apply Ed (t:=q.ti) (x:=J7 b.aC);cases hi:(b.aC.findIdx? λx=>x.id=id) with
 |none=>
  have e1:(J7 b.aC).1 id=none:=by show yZ _ _=_;rw[hi];rfl
  have e2:b.find id=none:=Ce (key:=λx:bP=>x.id) hi;rw[e1];rw[e2] at h;simp only[ff,dL,gQ,dI] at h⊢;apply ws;exact T.dp h
 |some n=>
  have e1:(J7 b.aC).1 id=some (n:Int):=by show yZ _ _=_;rw[hi];rfl
  obtain⟨hn,hk,hf⟩:=xq (key:=λx:bP=>x.id) hi;have e2:b.find id=some b.aC[n]:=hf;rw[e1];rw[e2] at h;simp only[ff,dL,gQ,dI] at h⊢;apply ws;refine aeW (l:=q.la) (x:=b.aC[n]) (aj hn) (by omega) ?_;apply ws;exact T.dp h
def xJ[i:Lc (cL p) L (b,hs) f](h:T W L (K (.tuple ⟨[.agg ⟨aO ((b.find id).getD zA)⟩,.b (b.find id).isSome]⟩))):T W L (dW (ah p) (nm id) K):=by
 have hL:f (b,hs)=L:=i.same;refine Nh (p:=p) λla lk ti tn vs bx R hg hc qh=>?_;exact Hl (b:=b) hg.oJ (qh [] b hs vs bx _ hg hc (by rw[hL];exact h))
def KJ{f1:Core->LH}{f2:Nat×List cr->LH}{f3:(Nat->Option Int)×Nat->LH}{q:Core}[i1:Lc (gY p) L q f1][i2:Lc (tq bM 33 q.lk) L (p,b.ax) f2][i3:Lc (pL q.tn) L (Ho b.ax) f3](oJ:b.ax.length<=96)
 (h:T W L (K (.tuple ⟨[.agg ⟨bM ((b.named id).getD zK)⟩,.b (b.named id).isSome]⟩))):T W L (iF (ah p) (nm id) K):=by
 unfold iF;apply ws;intros;apply Ed (t:=q.tn) (x:=Ho b.ax);cases hi:(b.ax.findIdx? λx=>x.move.id=id) with
 |none=>
  have e1:(Ho b.ax).1 id=none:=by show yZ _ _=_;rw[hi];rfl
  have e2:b.named id=none:=Ce (key:=λx:cr=>x.move.id) hi;rw[e1];rw[e2] at h;simp only[ff,dL,gQ,dI] at h⊢;apply ws;exact T.dp h
 |some n=>
  have e1:(Ho b.ax).1 id=some (n:Int):=by show yZ _ _=_;rw[hi];rfl
  obtain⟨hn,hk,hf⟩:=xq (key:=λx:cr=>x.move.id) hi;have e2:b.named id=some b.ax[n]:=hf;rw[e1];rw[e2] at h;simp only[ff,dL,gQ,dI] at h⊢;apply ws;refine Wj (l:=q.lk) (x:=b.ax[n]) (aj hn) (by omega) ?_;apply ws;exact T.dp h
def KH[i:Lc (cL p) L (b,hs) f](h:T W L (K (.tuple ⟨[.agg ⟨bM ((b.named id).getD zK)⟩,.b (b.named id).isSome]⟩))):T W L (iF (ah p) (nm id) K):=by
 have hL:f (b,hs)=L:=i.same;refine Nh (p:=p) λla lk ti tn vs bx R hg hc qh=>?_;exact KJ (b:=b) hg.many (qh [] b hs vs bx _ hg hc (by rw[hL];exact h))
def Wc[i:Lc (cL p) L (b,hs) f](h:T W L (K (.b (decide (b.ax.length<96))))):T W L (o7 (some ⟨p,0,none⟩) K):=by
 have hL:f (b,hs)=L:=i.same;refine Nh (p:=p) λla lk ti tn vs bx R hg hc qh=>?_;have fin:=qh [] b hs vs bx _ hg hc (by rw[hL];exact h);unfold o7
 repeat' first|apply ws|apply wb|refine O8 ?_
 apply T.fin fin
 congr 1
 rw[decide_eq_decide];show((b.ax.length:Nat):Int)<96↔_;omega
def PF[i:Lc (cL p) L (b,hs) f](h:T W L (K (.i (hs.length:Int)))):T W L (fO (ah p) K):=by
 have hL:f (b,hs)=L:=i.same;refine Nh (p:=p) λla lk ti tn vs bx R hg hc qh=>?_;have fin:=qh [] b hs vs bx _ hg hc (by rw[hL];exact h);unfold fO;apply zg;apply Eh;apply acm (p:=p);apply ws;have:(gK la lk ti tn vs (fS b)).vs.length=hs.length:=by show vs.reverse.length=_;rw[jx,hc.len]
 rw[this];exact fin
def Lb(hg:eB b){n:Nat}(hn:n<b.aC.length)(hk:b.aC[n].id=a.id):fS (b.bu a)={fS b with aC:=b.aC.set n {a with ay:=b.aC[n].ay}}:=by
 have e:(b.bu a).aC=b.aC.set n {a with ay:=b.aC[n].ay}:=by
  show(b.aC.map λx=>if x.id=a.id then{a with ay:=x.ay} else x)=_;have:=map_set (key:=λx:bP=>x.id) hg.ids hn λx=>{a with ay:=x.ay};simp only[hk] at this;exact this
 unfold fS;have e9:J7 (b.aC.set n {a with ay:=b.aC[n].ay})=J7 b.aC:=Ql hn hk.symm;rw[e,e9]
 rfl
def eB.bu(hg:eB b){n:Nat}(hn:n<b.aC.length)(hk:b.aC[n].id=a.id)(ha:AG {a with ay:=b.aC[n].ay}):eB (b.bu a):=by
 have e:(b.bu a).aC=b.aC.set n {a with ay:=b.aC[n].ay}:=congrArg C.aC (Lb hg hn hk);have afQ:(b.bu a).aC.map (·.id)=b.aC.map (·.id):=by
  rw[e,List.map_set];refine List.ext_getElem (by simp) λi h1 h2=>?_;rw[List.getElem_set];split
  ·rename_i he;subst he;simp[hk]
  ·rfl
 refine⟨by rw[afQ];exact hg.ids,hg.names,by rw[e,je];exact hg.oJ,hg.many,?_,hg.SR,hg.rising,hg.dJ,hg.clock,?_⟩
 ·rw[e];intro x hx;rcases fq hx with hx|hx
  ·exact hg.Tc x hx
  ·subst hx;exact ha
 ·rw[e,je];exact hg.ay
def Kz[i:Lc (cL p) L (b,hs) f](hf:b.find a.id=some old)(ha:AG {a with ay:=old.ay})(hl:hs.length<900000)
 (h:∀fF,Ext (fS b) hs (fS (b.bu a)) fF 1->T W (f (b.bu a,fF)) (K (.i 0))):T W L (lj (ah p) (aO a) K):=by
 refine Nh (p:=p) λla lk ti tn vs bx R hg hc qh=>?_;have oJ:=hg.oJ;obtain⟨n,hi⟩:∃n,(b.aC.findIdx? λx=>x.id=a.id)=some n:=by
  cases hi:(b.aC.findIdx? λx=>x.id=a.id) with
  |none=>rw[show b.find a.id=none from Ce (key:=λx:bP=>x.id) hi] at hf;cases hf
  |some n=>exact⟨n,rfl⟩
 obtain⟨hn,hk,hff⟩:=xq (key:=λx:bP=>x.id) hi;have e2:b.find a.id=some b.aC[n]:=hff;rw[hf] at e2;have e3:=bA.inj e2;subst e3;have e1:(J7 b.aC).1 a.id=some (n:Int):=by show yZ _ _=_;rw[hi];rfl
 have HR:=Lb hg hn hk;have Qo:(gK la lk ti tn vs (fS b)).vs.length<1000000:=by show vs.reverse.length<_;rw[jx,hc.len];omega
 unfold lj;apply ws;intros;apply Hl (b:=b) hg.oJ;rw[hf];simp only[dL,dI];apply ws;intros;refine Ed (t:=ti) (x:=(fS b).qj) ?_;rw[show(fS b).qj.1 a.id=some (n:Int) from e1];simp only[dL,dI];apply ws;refine acv (l:=la) (y:=b.aC[n]) (aj hn) (show b.aC.length<_ by omega) Qo λr4 r1 r2=>?_;apply ws;refine eX (eX (eX (eX (eX ?_))));have Ke:∀o0,(∀x∈bx,x∈o0)->(r4,aO b.aC[n])∈o0->(r1,[.p (some (ad la 0))])∈o0->(r2,[.i (n:Int)])∈o0->kz p la lk o0 (E5 r4 r1 r2::vs) (fS b::hs) (fS (b.bu a)):=by
  intro o0 Bs m1 m2 m3;refine⟨?_,hc.mono Bs⟩;have:=Ee.Xk (p:=p) (la:=la) (lk:=lk) (c:=fS (b.bu a)) m1 m2 m3 (by rw[HR];simpa using hn);have ee:{fS (b.bu a) with aC:=(fS (b.bu a)).aC.set n b.aC[n]}=fS b:=by
   rw[HR];simp only[jH,List.set_getElem_self]
   rfl
  rw[ee] at this;exact this
 have fin:=λo0 c1=>qh [] (b.bu a) (fS b::hs) (E5 r4 r1 r2::vs) o0 _ (hg.bu hn hk ha) c1 (h _ ⟨[fS b],rfl,rfl,aI _⟩);rw[HR] at fin;simp only[gK,yL] at fin;exact fin _ (HR▸Ke _ (λx hx=>by simp[hx]) (by simp) (by simp) (by simp))
end
section
variable {W:World} {L R:LH} {K:VK} {X:WK} {p:Nat} {b:ba} {hs:List C} {f:ba×List C->LH} {id:Nat} {a old:bP}
def Q1{q:Core}{f1:Core->LH}[i:Lc (gY p) L q f1](hl:q.vs.length<1000000)(hs:0<=q.ay/\q.ay<1000000)
 (h:∀r,T W (Sep.pt r [.p (some (ad p 0))]::f1 {q with vs:=q.vs++[BD r],ay:=q.ay+1}) (K (.i (q.ay+1)))):T W L (o5 (ah p) K):=by
 unfold o5
 repeat' first|apply ws;intros|apply wb|refine NM ?_
 rename_i r;rw[aX (by omega)];have i2:=i.next {q with ay:=q.ay+1};apply wY (p:=p) (q:={q with ay:=q.ay+1}) hl rfl rfl;have i3:=i.next {q with vs:=q.vs++[BD r],ay:=q.ay+1};apply ws;exact h r
def ba.more(b:ba)(a:bP):ba:={b with ay:=b.ay+1,aC:=b.aC++[{a with ay:=b.ay+1}]}
def eB.more(hg:eB b)(hf:b.find a.id=none)(oJ:b.aC.length<32)(ha:AG {a with ay:=b.ay+1}):eB (b.more a):=by
 have tr:=hg.ay;have many:=hg.many;refine⟨?_,hg.names,by show(b.aC++[_]).length<=32;simp;omega,hg.many,?_,hg.SR,hg.rising,λk hk=>⟨(hg.dJ k hk).1,by have:=(hg.dJ k hk).2;show _<=b.ay+1;omega⟩,hg.clock,by show b.ay+1=(((b.aC++[_]).length:Nat):Int)+(b.ax.length:Int);simp;omega⟩
 ·show((b.aC++[_]).map _).Nodup;rw[cF];rw[List.nodup_append];refine⟨hg.ids,by simp,?_⟩;intro x hx y hy;simp at hy;subst hy;obtain⟨z,hz,rfl⟩:=cV.1 hx;have:=ql.1 hf z hz;simpa using this
 ·intro x hx;rcases dB.1 hx with hx|hx
  ·exact hg.Tc x hx
  ·simp at hx;subst hx;exact ha
def abh(hf:b.find a.id=none):fS (b.more a)={fS b with ay:=b.ay+1,qj:=(xK (fS b).qj.1 a.id (some (b.aC.length:Int)),(fS b).qj.2+1),aC:=b.aC++[{a with ay:=b.ay+1}]}:=by
 have e9:J7 (b.aC++[{a with ay:=b.ay+1}])=(xK (J7 b.aC).1 a.id (some (b.aC.length:Int)),(J7 b.aC).2+1):=Cd (key:=λx:bP=>x.id) (x:={a with ay:=b.ay+1}) hf;unfold fS ba.more;dsimp only;rw[e9]
def K7{m:Nat->Option Int}{k:Nat}{v:Int}{n:Nat}(h:m k=none):(xK (xK m k (some v)) k none,n+1-1)=(m,n):=by
 refine Prod.ext ?_ rfl
 funext j
 dsimp only[xK];by_cases e:j=k
 ·subst e;rw[ai rfl,h]
 ·rw[ag e,ag e]
def Xq[i:Lc (cL p) L (b,hs) f](hf:b.find a.id=none)(oJ:b.aC.length<32)(ha:AG {a with ay:=b.ay+1})(hl:hs.length<900000)
 (h:∀fF,Ext (fS b) hs (fS (b.more a)) fF 3->T W (f (b.more a,fF)) (K (.i 0))):T W L (m8 (ah p) (aO a) K):=by
 refine Nh (p:=p) λla lk ti tn vs bx R hg hc qh=>?_;have tr:=hg.ay;have many:=hg.many;have pq:(J7 b.aC).1 a.id=none:=by show yZ _ _=_;rw[rz (key:=λx:bP=>x.id) hf];rfl
 have Qo:vs.reverse.length<900000:=by rw[jx,hc.len];omega
 unfold m8;apply ws;intros;apply Pb (l:=la);apply ws;refine ef (by show decide (((b.aC.length:Nat):Int)>=32)=false;simp;omega) ?_;apply ws;refine Ed (t:=ti) (x:=(fS b).qj) ?_;rw[show(fS b).qj.1 a.id=none from pq];simp only[ff,gQ];apply ws;refine Q1 (p:=p) (q:=gK la lk ti tn vs (fS b)) (by show vs.reverse.length<_;omega) (by show 0<=b.ay/\b.ay<_;omega) λr3=>?_;apply ws;apply Pb (l:=la);apply ws;refine Q0 (t:=ti) (x:=(fS b).qj) (show b.aC.length<=1000 by omega) pq ?_;apply ws;refine wY (p:=p) (by show(vs.reverse++[_]).length<_;simp at Qo⊢;omega) rfl rfl ?_;apply ws;refine Wv (l:=la) (x:={a with ay:=b.ay+1}) (show b.aC.length<_ by omega) (by show((vs.reverse++[_])++[_]).length<_;simp at Qo⊢;omega) λr4 r5=>?_;apply ws;rename_i r1 r2;refine eX (eX (eX (eX (eX ?_))));have HR:=abh (a:=a) hf;have Ke:∀o0,(∀x∈bx,x∈o0)->(r1,[.p (some (ad p 0))])∈o0->(r2,aO {a with ay:=b.ay+1})∈o0->(r3,[.p (some (ad p 0))])∈o0->(r4,[.p (some (ad la 0))])∈o0->(r5,[.i (b.aC.length:Int)])∈o0->
                                                                                                                                                                                  kz p la lk o0 (Cv r4 r5::Tu r1 r2::BD r3::vs) ({fS b with ay:=b.ay+1,qj:=(xK (fS b).qj.1 a.id (some (b.aC.length:Int)),(fS b).qj.2+1)}::{fS b with ay:=b.ay+1}::fS b::hs) (fS (b.more a)):=by
  intro o0 Bs m1 m2 m3 m4 m5;refine⟨?_,?_,?_,hc.mono Bs⟩
  ·have:=Ee.Zj (p:=p) (la:=la) (lk:=lk) (c:=fS (b.more a)) m4 m5 (by show b.aC.length<=(b.aC++[_]).length;simp);have ee:{fS (b.more a) with aC:=(fS (b.more a)).aC.take b.aC.length}={fS b with ay:=b.ay+1,qj:=(xK (fS b).qj.1 a.id (some (b.aC.length:Int)),(fS b).qj.2+1)}:=by
    rw[HR];dsimp only;rw[Dv];rfl
   rw[ee] at this;exact this
  ·have:=Ee.open_ (p:=p) (la:=la) (lk:=lk) (c:={fS b with ay:=b.ay+1,qj:=(xK (fS b).qj.1 a.id (some (b.aC.length:Int)),(fS b).qj.2+1)}) (x:={a with ay:=b.ay+1}) m1 m2 (show b.aC.length+1<=1000 by omega) (by show(xK _ _ _ _).isSome=true;unfold xK;rw[ai rfl];rfl) (K7 (show(fS b).qj.1 a.id=none from pq));exact this
  ·exact Ee.next (c:={fS b with ay:=b.ay+1}) m3 (by show aa.wrap (b.ay+1-1)=b.ay;rw[aX (by omega)];omega)
 have fin:=λo0 c1=>qh [] (b.more a) _ (Cv r4 r5::Tu r1 r2::BD r3::vs) o0 _ (hg.more hf oJ ha) c1 (h _ ⟨[{fS b with ay:=b.ay+1,qj:=(xK (fS b).qj.1 a.id (some (b.aC.length:Int)),(fS b).qj.2+1)},{fS b with ay:=b.ay+1},fS b],rfl,rfl,aI _⟩);rw[HR] at fin;simp only[gK,yL] at fin;exact fin _ (HR▸Ke _ (λx hx=>by simp[hx]) (by repeat (first|exact dR.head _|apply dR.tail)) (by repeat (first|exact dR.head _|apply dR.tail)) (by repeat (first|exact dR.head _|apply dR.tail)) (by repeat (first|exact dR.head _|apply dR.tail)) (by repeat (first|exact dR.head _|apply dR.tail)))
end
section
variable {W:World} {L R:LH} {K:VK} {X:WK} {p:Nat} {b:ba} {hs:List C} {f:ba×List C->LH} {id:Nat} {k:cr} {asked t:cH} {fate:Int}
instance{x1 x2 x3 x4:Value}{x y:Int}{n:Nat}:Wr [x1,x2,x3,x4] 0 ([.i x,.i y]++(nm n++[])) (gR ⟨x,y,n⟩):=⟨by simp[over,gR,nm],by simp[nm],λv h=>qQ ⟨x,y,n⟩ v (by simpa [gR] using h)⟩
def T.OL{la lk ti tn:Nat}{vs:LV}{st:List oG}{e e':List Item}{x y:Int}(he:e.Perm e')(h:T W (gY p ⟨la,lk,ti,tn,vs,st,e',x,y⟩::R) X):T W (gY p ⟨la,lk,ti,tn,vs,st,e,x,y⟩::R) X:=T.Jo (q:=⟨la,lk,ti,tn,vs,st,e,x,y⟩) he h
def OI(k:cr):Item:=⟨k.move.iE+k.move.cB,k.move.ay,k.move.id⟩
def Vr(hk:KG k)(h:T W L (K (.tuple ⟨[.agg ⟨gR (OI k)⟩,.b (gn k).isSome]⟩))):T W L (vf (bM k) K):=by
 have h1:=hk.cB;have h2:=hk.iE;unfold vf;apply ws;intros;rw[aX (by omega)];have hd:(gn k).isSome=decide (k.fate=1/\0<k.move.cB):=by
  unfold gn;split
  ·rename_i hc;simp[hc]
  ·rename_i hc;simp[hc]
 rw[hd] at h;apply dz<;>intro g
 ·have g:k.fate=1:=by simpa using g
  apply ws;refine T.fin (by exact T.dp h) ?_;simp[g];rfl
 ·have g: ¬k.fate=1:=by simpa using g
  apply ws;refine T.fin (by exact T.dp h) ?_;simp[g];rfl
def eB.mw(hg:eB b)(hf:b.named t.id=none)(many:b.ax.length<96)(hk:KG ⟨asked,{t with ay:=b.ay+1,iE:=b.clock},fate⟩):eB (b.mw asked t fate):=by
 have tr:=hg.ay;refine⟨hg.ids,?_,hg.oJ,by show(b.ax++[_]).length<=96;simp;omega,hg.Tc,?_,?_,?_,hg.clock,by show b.ay+1=_+(((b.ax++[_]).length:Nat):Int);simp;show _=(b.aC.length:Int)+_;omega⟩
 ·show((b.ax++[_]).map _).Nodup;rw[cF,List.nodup_append];refine⟨hg.names,by simp,?_⟩;intro x hx y hy;simp at hy;subst hy;obtain⟨z,hz,rfl⟩:=cV.1 hx;have:=ql.1 hf z hz;simpa using this
 ·intro x hx;rcases dB.1 hx with hx|hx
  ·exact hg.SR x hx
  ·simp at hx;subst hx;exact hk
 ·show(b.ax++[_]).Pairwise _;rw[List.pairwise_append];refine⟨hg.rising,by simp,λx hx y hy=>?_⟩;simp at hy;subst hy;have:=(hg.dJ x hx).2;show _<b.ay+1;omega
 ·intro x hx;rcases dB.1 hx with hx|hx
  ·have:=hg.dJ x hx;show _/\_<=b.ay+1;omega
  ·simp at hx;subst hx;show 1<=b.ay+1/\b.ay+1<=b.ay+1;omega
abbrev uq(b:ba)(asked t:cH)(fate:Int):cr:=⟨asked,{t with ay:=b.ay+1,iE:=b.clock},fate⟩
def abk(hf:b.named t.id=none):fS (b.mw asked t fate)={fS b with ay:=b.ay+1,ax:=b.ax++[uq b asked t fate],ix:=(xK (fS b).ix.1 t.id (some (b.ax.length:Int)),(fS b).ix.2+1),dJ:=(fS b).dJ++[(b.ay+1,(b.ax.length:Int))],ends:=(fS b).ends++(gn (uq b asked t fate)).toList}:=by
 have e9:Ho (b.ax++[uq b asked t fate])=(xK (Ho b.ax).1 t.id (some (b.ax.length:Int)),(Ho b.ax).2+1):=Cd (key:=λx:cr=>x.move.id) (x:=uq b asked t fate) hf;unfold fS ba.mw;dsimp only;rw[e9,wL,List.filterMap_append,aB]
 congr 1
def PG{waits:Bool}[i:Lc (cL p) L (b,hs) f](hf:b.named t.id=none)(many:b.ax.length<96)(hk:KG (uq b asked t fate))(hw:fate=if waits then 1 else 0)(hl:hs.length<900000)
 (h:∀fF,Ext (fS b) hs (fS (b.mw asked t fate)) fF 4->T W (f (b.mw asked t fate,fF)) (K (.i 0))):T W L (iG (ah p) (aN asked) (aN t) waits K):=by
 refine Nh (p:=p) λla lk ti tn vs bx R hg hc qh=>?_;have tr:=hg.ay;have oJ:=hg.oJ;have pq:(Ho b.ax).1 t.id=none:=by show yZ _ _=_;rw[rz (key:=λx:cr=>x.move.id) hf];rfl
 have Qo:vs.reverse.length<900000:=by rw[jx,hc.len];omega
 unfold iG;apply ws;intros;apply O8 (l:=lk);apply ws;refine ef (by show decide (((b.ax.length:Nat):Int)>=96)=false;simp;omega) ?_;apply ws;refine Ed (t:=tn) (x:=(fS b).ix) ?_;rw[show(fS b).ix.1 t.id=none from pq];simp only[ff,gQ];apply ws;intros;rename_i r1 r2 r3 r4;have main:T W (Sep.pt r4 (bM ⟨asked,t,fate⟩)::Sep.pt r3 (aN t)::Sep.pt r2 (aN asked)::Sep.pt r1 [.p (some (ad p 0))]::gY p (gK la lk ti tn vs (fS b))::tq aO 14 la (p,(fS b).aC)::tq bM 33 lk (p,(fS b).ax)::pL ti (fS b).qj::pL tn (fS b).ix::wV bx::R) (iG.j1 K r1 r4 r3):=by
  unfold iG.j1;apply ws;refine Q1 (p:=p) (q:=gK la lk ti tn vs (fS b)) (by show vs.reverse.length<_;omega) (by show 0<=b.ay/\b.ay<_;omega) λr5=>?_;apply ws;refine Wm (l:=lk) (x:=uq b asked t fate) (show b.ax.length<_ by omega) (by show(vs.reverse++[_]).length<_;simp at Qo⊢;omega) λr6 r7=>?_;apply ws;refine Q0 (t:=tn) (x:=(fS b).ix) (show b.ax.length<=1000 by omega) pq ?_;apply ws;refine QJ (p:=p) hg.zn (by show(fB 0 b.ax).length<_;rw[mL];omega) (λx hx=>by
   obtain⟨k,hk,e⟩:=BH hx
   have:=(hg.dJ k hk).2
   show x.1<b.ay+1
   omega) ?_
  apply ws;refine wY (p:=p) (by show((vs.reverse++[_])++[_]).length<_;simp at Qo⊢;omega) rfl rfl ?_;apply ws;apply Vr (k:=uq b asked t fate) hk;apply ws;intros;rename_i r8;have HR:=abk (asked:=asked) (fate:=fate) hf;have Ke:∀o0,(∀x∈bx,x∈o0)->(r1,[.p (some (ad p 0))])∈o0->(r3,aN t)∈o0->(r4,bM (uq b asked t fate))∈o0->(r5,[.p (some (ad p 0))])∈o0->(r6,[.p (some (ad lk 0))])∈o0->(r7,[.i (b.ax.length:Int)])∈o0->
   kz p la lk o0 (Ft r1 r3 r4::wB r6 r7::BD r5::vs) ({fS b with ay:=b.ay+1,ax:=b.ax++[uq b asked t fate]}::{fS b with ay:=b.ay+1}::fS b::hs)
    {fS b with ay:=b.ay+1,ax:=b.ax++[uq b asked t fate],ix:=(xK (fS b).ix.1 t.id (some (b.ax.length:Int)),(fS b).ix.2+1),dJ:=(fS b).dJ++[(b.ay+1,(b.ax.length:Int))]}:=by
   intro o0 Bs m1 m2 m3 m4 m5 m6;refine⟨?_,?_,?_,hc.mono Bs⟩
   ·exact Ee.Qh (p:=p) (la:=la) (lk:=lk) (c:={fS b with ay:=b.ay+1,ax:=b.ax++[uq b asked t fate],ix:=(xK (fS b).ix.1 t.id (some (b.ax.length:Int)),(fS b).ix.2+1),dJ:=(fS b).dJ++[(b.ay+1,(b.ax.length:Int))]}) (t:=t) (k:=uq b asked t fate) (l0:=(fS b).dJ) m1 m2 m3 (show b.ax.length+1<=1000 by omega) (by show(xK _ _ _ _).isSome=true;unfold xK;rw[ai rfl];rfl)
     (by have:=(hg.mw hf many hk).zn
         have e:fB 0 (b.mw asked t fate).ax=(fS b).dJ++[(b.ay+1,(b.ax.length:Int))]:=congrArg C.dJ HR
         rw[e] at this;exact this)
     (by show(fB 0 b.ax++[_]).length<_;rw[av,mL];simp;omega) rfl (K7 (show(fS b).ix.1 t.id=none from pq))
   ·have:=Ee.Zi (p:=p) (la:=la) (lk:=lk) (c:={fS b with ay:=b.ay+1,ax:=b.ax++[uq b asked t fate]}) m5 m6 (by show b.ax.length<=(b.ax++[_]).length;simp);have ee:({({fS b with ay:=b.ay+1,ax:=b.ax++[uq b asked t fate]}:C) with ax:=(b.ax++[uq b asked t fate]).take b.ax.length}:C)={fS b with ay:=b.ay+1}:=by rw[Dv];rfl
    rw[ee] at this;exact this
   ·exact Ee.next (c:={fS b with ay:=b.ay+1}) m4 (by show aa.wrap (b.ay+1-1)=b.ay;rw[aX (by omega)];omega)
  cases hd:gn (uq b asked t fate) with
  |none=>
   simp only[ff];apply ws;refine eX (eX (eX (eX (eX (eX (eX (eX ?_)))))));rw[hd] at HR;simp only[Option.toList_none,bR] at HR;have fin:=λo0 c1=>qh [] (b.mw asked t fate) _ (Ft r1 r3 r4::wB r6 r7::BD r5::vs) o0 _ (hg.mw hf many hk) c1 (h _ ⟨[{fS b with ay:=b.ay+1,ax:=b.ax++[uq b asked t fate]},{fS b with ay:=b.ay+1},fS b],rfl,rfl,by simp⟩);rw[HR] at fin;simp only[gK,yL] at fin;exact fin _ (Ke _ (λx hx=>by simp[hx]) (by repeat (first|exact dR.head _|apply dR.tail)) (by repeat (first|exact dR.head _|apply dR.tail)) (by repeat (first|exact dR.head _|apply dR.tail)) (by repeat (first|exact dR.head _|apply dR.tail)) (by repeat (first|exact dR.head _|apply dR.tail)) (by repeat (first|exact dR.head _|apply dR.tail)))
  |some x=>
   have ex:OI (uq b asked t fate)=x:=by
    unfold gn at hd;split at hd
    ·cases hd;rfl
    ·cases hd
   simp only[dL];apply ws;simp only[ia,aB];rw[ex];refine Kr (p:=p) (e':=(fS b).ends++[x]) (by have:=Co b;show(b.ax.filterMap gn).length<_;omega) (cf.refl _) ?_;apply ws;refine wY (p:=p) (by show(((vs.reverse++[_])++[_])++[_]).length<_;simp at Qo⊢;omega) rfl rfl ?_;apply ws;refine eX (eX (eX (eX (eX (eX (eX (eX ?_)))))));rw[hd] at HR;simp only[Option.toList_some] at HR;have hsx:=(sg hd).1;have U3:∀o0,(∀x∈bx,x∈o0)->(r1,[.p (some (ad p 0))])∈o0->(r3,aN t)∈o0->(r4,bM (uq b asked t fate))∈o0->(r5,[.p (some (ad p 0))])∈o0->(r6,[.p (some (ad lk 0))])∈o0->(r7,[.i (b.ax.length:Int)])∈o0->(r8,gR x)∈o0->
                                              kz p la lk o0 (NI r1 r8::Ft r1 r3 r4::wB r6 r7::BD r5::vs) ({fS b with ay:=b.ay+1,ax:=b.ax++[uq b asked t fate],ix:=(xK (fS b).ix.1 t.id (some (b.ax.length:Int)),(fS b).ix.2+1),dJ:=(fS b).dJ++[(b.ay+1,(b.ax.length:Int))]}::{fS b with ay:=b.ay+1,ax:=b.ax++[uq b asked t fate]}::{fS b with ay:=b.ay+1}::fS b::hs)
                                               (fS (b.mw asked t fate)):=by
    intro o0 Bs m1 m2 m3 m4 m5 m6 m7;refine⟨?_,Ke o0 Bs m1 m2 m3 m4 m5 m6⟩;rw[HR];exact Ee.Qg (p:=p) (la:=la) (lk:=lk) (c:={fS b with ay:=b.ay+1,ax:=b.ax++[uq b asked t fate],ix:=(xK (fS b).ix.1 t.id (some (b.ax.length:Int)),(fS b).ix.2+1),dJ:=(fS b).dJ++[(b.ay+1,(b.ax.length:Int))],ends:=(fS b).ends++[x]}) (e':=(fS b).ends) m1 m7
     (by have:=Co b;show(b.ax.filterMap gn++[x]).length<_;simp;omega) (bG (l₁:=[x])) (λy hy=>by
      obtain⟨k,hk,e⟩:=List.mem_filterMap.1 hy
      have h1:=(sg e).1
      have h2:=(hg.dJ k hk).2
      rw[hsx]
      show y.ay≠b.ay+1
      omega)
   have fin:=λo0 c1=>qh [] (b.mw asked t fate) _ (NI r1 r8::Ft r1 r3 r4::wB r6 r7::BD r5::vs) o0 _ (hg.mw hf many hk) c1 (h _ ⟨[{fS b with ay:=b.ay+1,ax:=b.ax++[uq b asked t fate],ix:=(xK (fS b).ix.1 t.id (some (b.ax.length:Int)),(fS b).ix.2+1),dJ:=(fS b).dJ++[(b.ay+1,(b.ax.length:Int))]},{fS b with ay:=b.ay+1,ax:=b.ax++[uq b asked t fate]},{fS b with ay:=b.ay+1},fS b],rfl,rfl,by simp⟩);rw[HR] at fin U3;simp only[gK,yL] at fin;exact fin _ (U3 _ (λx hx=>by simp[hx]) (by repeat (first|exact dR.head _|apply dR.tail)) (by repeat (first|exact dR.head _|apply dR.tail)) (by repeat (first|exact dR.head _|apply dR.tail)) (by repeat (first|exact dR.head _|apply dR.tail)) (by repeat (first|exact dR.head _|apply dR.tail)) (by repeat (first|exact dR.head _|apply dR.tail)) (by repeat (first|exact dR.head _|apply dR.tail)))
 apply dz<;>intro g
 ·rw[g] at hw;apply ws;rw[ai rfl] at hw;rw[hw] at main;exact main
 ·rw[g,ag (by decide)] at hw;rw[hw] at main;exact main
def Ve(hg:eB b){n:Nat}(hn:n<b.ax.length)(h1:b.ax[n].fate=1)(E0:fate=2\/fate=3\/fate=4):fS (b.fate b.ax[n].move.id fate)={fS b with ax:=b.ax.set n {b.ax[n] with fate:=fate},ends:=(b.ax.set n {b.ax[n] with fate:=fate}).filterMap gn}:=by
 have e:(b.fate b.ax[n].move.id fate).ax=b.ax.set n {b.ax[n] with fate:=fate}:=by
  show(b.ax.map λk=>if k.move.id=b.ax[n].move.id/\k.fate=1 then{k with fate:=fate} else k)=_;have:=map_set (key:=λx:cr=>x.move.id) hg.names hn λk=>if k.fate=1 then{k with fate:=fate} else k
  rw[ai h1] at this;rw[<-this];apply jv;intro k hk;by_cases e1:k.move.id=b.ax[n].move.id<;>by_cases e2:k.fate=1<;>simp[e1,e2]
 have e9:Ho (b.ax.set n {b.ax[n] with fate:=fate})=Ho b.ax:=Ql (key:=λx:cr=>x.move.id) hn rfl;unfold fS;rw[e,e9,JN (k:={b.ax[n] with fate:=fate}) 0 hn rfl]
 rfl
def eB.adV(hg:eB b){n:Nat}(hn:n<b.ax.length)(h1:b.ax[n].fate=1)(E0:fate=2\/fate=3\/fate=4):eB (b.fate b.ax[n].move.id fate):=by
 have e:(b.fate b.ax[n].move.id fate).ax=b.ax.set n {b.ax[n] with fate:=fate}:=congrArg C.ax (Ve hg hn h1 E0);have em:∀{β:Type}(g:cr->β),(∀k:cr,g {k with fate:=fate}=g k)->(b.fate b.ax[n].move.id fate).ax.map g=b.ax.map g:=by
  intro β g hgg;rw[e,List.map_set];refine List.ext_getElem (by simp) λi h1 h2=>?_;rw[List.getElem_set];split
  ·rename_i he;subst he;simp[hgg]
  ·rfl
 have hk:=hg.SR _ (bF hn);refine⟨hg.ids,by rw[em (λx=>x.move.id) λ_=>rfl];exact hg.names,hg.oJ,by rw[e,je];exact hg.many,hg.Tc,?_,?_,?_,hg.clock,by rw[e,je];exact hg.ay⟩
 ·rw[e];intro x hx;rcases fq hx with hx|hx
  ·exact hg.SR x hx
  ·subst hx;exact⟨hk.asked,hk.move,hk.OZ,hk.P5,hk.vQ,hk.xk,by show 0<=fate/\fate<=4;omega,hk.cB,hk.iE⟩
 ·have h2:=hg.rising;have:((b.fate b.ax[n].move.id fate).ax.map λx=>x.move.ay).Pairwise (·<·):=by
   rw[em (λx=>x.move.ay) λ_=>rfl];exact List.pairwise_map.2 h2
  exact List.pairwise_map.1 this
 ·rw[e];intro x hx;rcases fq hx with hx|hx
  ·exact hg.dJ x hx
  ·subst hx;exact hg.dJ b.ax[n] (bF hn)
def aaW[i:Lc (cL p) L (b,hs) f](hn:b.named id=some k)(h1:k.fate=1)(E0:fate=2\/fate=3\/fate=4)(hl:hs.length<900000)
 (h:∀fF,Ext (fS b) hs (fS (b.fate id fate)) fF 2->T W (f (b.fate id fate,fF)) (K (.i 0))):T W L (dh (ah p) (nm id) fate K):=by
 refine Nh (p:=p) λla lk ti tn vs bx R hg hc qh=>?_;have oJ:=hg.oJ;have many:=hg.many;obtain⟨n,hi⟩:∃n,(b.ax.findIdx? λx=>x.move.id=id)=some n:=by
  cases hi:(b.ax.findIdx? λx=>x.move.id=id) with
  |none=>rw[show b.named id=none from Ce (key:=λx:cr=>x.move.id) hi] at hn;cases hn
  |some n=>exact⟨n,rfl⟩
 obtain⟨hnl,hk,hff⟩:=xq (key:=λx:cr=>x.move.id) hi;have e2:b.named id=some b.ax[n]:=hff;rw[hn] at e2;have e3:=bA.inj e2;subst e3;subst hk;have e1:(Ho b.ax).1 b.ax[n].move.id=some (n:Int):=by show yZ _ _=_;rw[hi];rfl
 have HR:=Ve hg hnl h1 E0;have hkg:=hg.SR _ (bF hnl);have Qo:vs.reverse.length<900000:=by rw[jx,hc.len];omega
 have HM:gn {b.ax[n] with fate:=fate}=none:=by unfold gn;rw[ag];show ¬(fate=1/\_);omega
 unfold dh;apply ws;intros;apply KJ (b:=b) hg.many;rw[hn];simp only[dL,dI];apply ws;intros;rename_i r1 r2 r3;unfold dh.j1;apply ef (by simpa using h1);unfold dh.j2;refine ef (by simp;omega) ?_;refine ef (by simp;omega) ?_;apply ws;apply Vr (k:=b.ax[n]) hkg;apply ws;intros;rename_i r4;have main:∀(q:Core)(y8:LV)(ib:List C)(c2:C),q=gK la lk ti tn y8 c2->c2={fS b with ends:=q.ends}->q.ends.Perm ((b.ax.set n {b.ax[n] with fate:=fate}).filterMap gn)->y8.length<=vs.length+1->
                                                      (∀o0,(∀x∈bx,x∈o0)->(r1,[.p (some (ad p 0))])∈o0->(r4,gR (OI b.ax[n]))∈o0->kz p la lk o0 y8 ib {fS b with ends:=(b.ax.set n {b.ax[n] with fate:=fate}).filterMap gn})->
                                                      Ext (fS b) hs (fS (b.fate b.ax[n].move.id fate)) ({fS b with ends:=(b.ax.set n {b.ax[n] with fate:=fate}).filterMap gn}::ib) 2->
                                                      T W (Sep.pt r4 (gR (OI b.ax[n]))::Sep.pt r3 (bM b.ax[n])::Sep.pt r2 (nm b.ax[n].move.id)::Sep.pt r1 [.p (some (ad p 0))]::gY p q::tq aO 14 la (p,b.aC)::tq bM 33 lk (p,b.ax)::pL ti (J7 b.aC)::pL tn (Ho b.ax)::wV bx::R) (dh.j4 K r1 r2 r3 fate):=by
  rintro q y8 ib c2 rfl Ow hpm afa Ke afu;unfold dh.j4;have hlv:(gK la lk ti tn y8 c2).vs.length<1000000:=by show y8.reverse.length<_;rw[jx];rw[jx] at Qo;omega
  apply ws;apply Ed (t:=tn) (x:=Ho b.ax);rw[e1];simp only[dL,dI];apply ws;refine aco (l:=lk) (y:=b.ax[n]) (x:={b.ax[n] with fate:=fate}) (aj hnl) (by omega) hlv λr5 r6 r7=>?_;apply ws;refine eX (eX (eX (eX (eX (eX (eX ?_))))));refine T.OL (e':=(b.ax.set n {b.ax[n] with fate:=fate}).filterMap gn) hpm ?_;have fin:=λo0(c1:kz p la lk o0 (Cu r5 r6 r7::y8) ({fS b with ends:=(b.ax.set n {b.ax[n] with fate:=fate}).filterMap gn}::ib) (fS (b.fate b.ax[n].move.id fate)))=>qh [] (b.fate b.ax[n].move.id fate) _ (Cu r5 r6 r7::y8) o0 _ (hg.adV hnl h1 E0) c1 (h _ afu);have U3:∀o0,(∀x∈bx,x∈o0)->(r1,[.p (some (ad p 0))])∈o0->(r4,gR (OI b.ax[n]))∈o0->(r5,bM b.ax[n])∈o0->(r6,[.p (some (ad lk 0))])∈o0->(r7,[.i (n:Int)])∈o0->
                                            kz p la lk o0 (Cu r5 r6 r7::y8) ({fS b with ends:=(b.ax.set n {b.ax[n] with fate:=fate}).filterMap gn}::ib) (fS (b.fate b.ax[n].move.id fate)):=by
   intro o0 Bs m1 m2 m3 m4 m5;refine⟨?_,Ke o0 Bs m1 m2⟩;have:=Ee.Xj (p:=p) (la:=la) (lk:=lk) (c:=fS (b.fate b.ax[n].move.id fate)) m3 m4 m5 (by rw[HR];simpa using hnl);have ee:{fS (b.fate b.ax[n].move.id fate) with ax:=(fS (b.fate b.ax[n].move.id fate)).ax.set n b.ax[n]}={fS b with ends:=(b.ax.set n {b.ax[n] with fate:=fate}).filterMap gn}:=by
    rw[HR];simp only[jH,List.set_getElem_self]
    rfl
   rw[ee] at this;exact this
  rw[HR] at fin U3;simp only[gK,yL] at fin;rw[Ow];exact fin _ (U3 _ (λx hx=>by simp[hx]) (by repeat (first|exact dR.head _|apply dR.tail)) (by repeat (first|exact dR.head _|apply dR.tail)) (by repeat (first|exact dR.head _|apply dR.tail)) (by repeat (first|exact dR.head _|apply dR.tail)) (by repeat (first|exact dR.head _|apply dR.tail)))
 cases hd:gn b.ax[n] with
 |none=>
  simp only[ff];apply ws;unfold dh.j3;apply jU;have hes:=HV hnl HM hd;have U4:({fS b with ends:=(b.ax.set n {b.ax[n] with fate:=fate}).filterMap gn}:C)=fS b:=by rw[hes];rfl
  refine main (gK la lk ti tn vs (fS b)) vs hs (fS b) rfl rfl (by rw[hes];exact cf.refl _) (by omega) (λo0 Bs _ _=>by rw[U4];exact hc.mono Bs) (by rw[U4];exact⟨[fS b],rfl,rfl,by simp⟩)
 |some x=>
  have ex:OI b.ax[n]=x:=by
   unfold gn at hd;split at hd
   ·cases hd;rfl
   ·cases hd
  obtain⟨Yf,GB⟩:=hg.Vi hnl HM hd;simp only[dL];apply ws;simp only[ia,aB];have hsx:b.ax[n].move.ay=x.ay:=(sg hd).1.symm;refine MM (p:=p) (q:=gK la lk ti tn vs (fS b)) (by have:=Co b;show(b.ax.filterMap gn).length<_;omega) (λy e' hy hpy=>?_) (λHp=>?_)
  ·apply ws;unfold dh.j3;apply qe;apply ws;refine wY (p:=p) (by show vs.reverse.length<_;omega) rfl rfl ?_;apply ws;have hpe:e'.Perm ((b.ax.set n {b.ax[n] with fate:=fate}).filterMap gn):=Ic Yf hpy (by rw[hy,<-ex]) GB;have:=main ⟨la,lk,ti,tn,vs.reverse++[aax r1 r4],(fS b).dJ,e',(fS b).clock,(fS b).ay⟩ (aax r1 r4::vs) (fS b::hs) {fS b with ends:=e'} (by simp[gK]) rfl hpe (by simp) (λo0 Bs m1 m2=>⟨?_,hc.mono Bs⟩) ⟨[{fS b with ends:=(b.ax.set n {b.ax[n] with fate:=fate}).filterMap gn},fS b],rfl,rfl,by simp⟩
   ·exact this
   ·rw[ex] at m2;exact Ee.end_ (p:=p) (la:=la) (lk:=lk) (c:={fS b with ends:=(b.ax.set n {b.ax[n] with fate:=fate}).filterMap gn}) (e':=(fS b).ends) m1 m2 (by have h3:=List.length_filterMap_le gn (b.ax.set n {b.ax[n] with fate:=fate});rw[je] at h3;show List.length (List.filterMap _ _)<_;omega) (Yf.symm.trans (bG (l₁:=[x])))
  ·refine aT ?_ (Hp x (Yf.mem_iff.1 (by simp)));rw[<-ex]
end
def km(d c:bP):LV:=aO d++aO c
def CP(d c:bP):∀v∈km d c,v.oneCell'=true:=pC (iV _) (iV _)
instance{d c:bP}:Ln (km d c) 28:=⟨rfl⟩
instance{d c:bP}:Gt (km d c) 12 (.i d.aq):=⟨rfl⟩
instance{d c:bP}:Gt (km d c) 26 (.i c.aq):=⟨rfl⟩
section
variable {d c e:bP} {i:Int} {x1 x2 x3 x4 x5 x6 x7 x8 x9 Fi Fh Fg Ff Jx NC NA ZC ZB x19 x20 x21 x22 x23 x24 x25 x26 x27 x28:Value}
instance:Sub (km d c) 0 28 (km d c):=⟨rfl,λj v h=>by rw[aB];exact h⟩
instance:Sub (km d c) 0 14 (aO d):=⟨rfl,λj v h=>by rw[aB];unfold km;rw[ch (ar.1 h).1];exact h⟩
instance:Sub (km d c) 14 14 (aO c):=⟨rfl,λj v h=>by
 have hl:(aO d).length=14:=rfl
 unfold km
 rw[iN (by omega),hl,show 14+j-14=j by omega];exact h⟩
instance:Wr (km d c) 0 (aO e) (km e c):=⟨rfl,by show 14<=28;decide,iV e⟩
instance:Wr (km d c) 14 (aO e) (km d e):=⟨rfl,by show 28<=28;decide,iV e⟩
instance:Wr (km d c) 12 [.i i] (km {d with aq:=i} c):=⟨rfl,by show 13<=28;decide,λv h=>by simp at h;subst h;rfl⟩
instance:Wr (km d c) 26 [.i i] (km d {c with aq:=i}):=⟨rfl,by show 27<=28;decide,λv h=>by simp at h;subst h;rfl⟩
instance:Wr [x1,x2,x3,x4,x5,x6,x7,x8,x9,Fi,Fh,Fg,Ff,Jx,NC,NA,ZC,ZB,x19,x20,x21,x22,x23,x24,x25,x26,x27,x28] 0 (km d c) (km d c):=⟨rfl,aI _,CP d c⟩
instance:Wr [x1,x2,x3,x4,x5,x6,x7,x8,x9,Fi,Fh,Fg,Ff,Jx,NC,NA,ZC,ZB,x19,x20,x21,x22,x23,x24,x25,x26,x27,x28] 0 (aO d++(aO c++[])) (km d c):=⟨rfl,aI _,by rw[bR];exact CP d c⟩
instance:Wr [x1,x2,x3,x4,x5,x6,x7,x8,x9,Fi,Fh,Fg,Ff,Jx,NC,NA,ZC,ZB,x19,x20,x21,x22,x23,x24,x25,x26,x27,x28] 0 [.u 0,.u 0,.u 0,.u 0,.u 0,.u 0,.u 0,.u 0,.u 0,.u 0,.i 0,.i 0,.i 0,.i 0,.u 0,.u 0,.u 0,.u 0,.u 0,.u 0,.u 0,.u 0,.u 0,.u 0,.i 0,.i 0,.i 0,.i 0] (km zA zA):=⟨rfl,aI _,CP zA zA⟩
end
def uQ(d c:Option bP)(t:cH):Int:=match d with
 |none=>19
 |some d=>match c with
  |none=>20
  |some c=>if d.bJ≠c.bJ then 21 else if d.bJ≠t.bJ then 22 else if 8<=d.aq then 30 else if 8<=c.aq then 31 else 0
def Yt{f:Int}(h0:0<=f)(h1:f<16):(dj .i64 .and f 8!=0)=decide (8<=f):=by
 rw[cj];simp only[fM,ne_eq,decide_eq_true_eq];rw[VO h0 (by omega)];unfold has;omega
section
variable {W:World} {L R:LH} {K:VK} {X:WK} {p:Nat} {b:ba} {hs:List C} {f:ba×List C->LH} {t:cH} {d c:bP} {n:Nat}
def X1[i:Lc (cL p) L (b,hs) f](h0:∀d c,uQ (b.find t.bI) (b.find t.aU) t≠0->T W L (K (.tuple ⟨[.agg ⟨km d c⟩,.i (uQ (b.find t.bI) (b.find t.aU) t)]⟩)))
 (h:∀d c,b.find t.bI=some d->b.find t.aU=some c->uQ (b.find t.bI) (b.find t.aU) t=0->T W L (K (.tuple ⟨[.agg ⟨km d c⟩,.i 0]⟩))):T W L (Ae (ah p) (aN t) K):=by
 refine qZ (p:=p) λhg=>?_;unfold Ae
 repeat' first|apply ws;intros|apply wb|refine xJ ?_
 cases hd:b.find t.bI with
 |none=>
  rw[hd] at h0;simp only[ff,gQ];have:=h0 zA zA (by show(19:Int)≠0;decide);apply ws;exact T.dp this
 |some d=>
  cases hc:b.find t.aU with
  |none=>
   rw[hd,hc] at h0;simp only[ff,gQ,dL,dI];have:=h0 zA zA (by show(20:Int)≠0;decide);apply ws;exact T.dp this
  |some c=>
   rw[hd,hc] at h0 h;have fd:=(hg.Tc d (nD hd)).aq;have fc:=(hg.Tc c (nD hc)).aq;simp only[dL,dI];apply ws;apply dz<;>intro g1
   ·have g1:d.bJ≠c.bJ:=by simpa using g1
    have e:uQ (some d) (some c) t=21:=ai g1;rw[e] at h0;have:=h0 zA zA (by decide);apply ws;exact T.dp this
   have g1: ¬d.bJ≠c.bJ:=by simpa using g1
   apply ws;apply dz<;>intro g2
   ·have g2:d.bJ≠t.bJ:=by simpa using g2
    have e:uQ (some d) (some c) t=22:=by unfold uQ;dsimp only;rw[ag g1,ai g2]
    rw[e] at h0;have:=h0 zA zA (by decide);apply ws;exact T.dp this
   have g2: ¬d.bJ≠t.bJ:=by simpa using g2
   apply ws;rw[Yt fd.1 fd.2];apply ga<;>intro g3
   ·have e:uQ (some d) (some c) t=30:=by unfold uQ;dsimp only;rw[ag g1,ag g2,ai (g3)]
    rw[e] at h0;have:=h0 zA zA (by decide);apply ws;exact T.dp this
   apply ws;rw[Yt fc.1 fc.2];apply ga<;>intro g4
   ·have e:uQ (some d) (some c) t=31:=by unfold uQ;dsimp only;rw[ag g1,ag g2,ag g3,ai (g4)]
    rw[e] at h0;have:=h0 zA zA (by decide);apply ws;exact T.dp this
   have:=h d c rfl rfl (by unfold uQ;dsimp only;rw[ag g1,ag g2,ag g3,ag g4]);apply ws;exact T.dp this
def adO{f:Int}(h0:0<=f)(h1:f<256):(dj .i64 .and f 16!=0)=decide (has f 16):=by
 rw[cj];simp only[fM,ne_eq,decide_eq_true_eq];rw[aca h0 h1,bp]
def adN{f:Int}(h0:0<=f)(h1:f<256):(dj .i64 .and f 32!=0)=decide (has f 32):=by
 rw[cj];simp only[fM,ne_eq,decide_eq_true_eq];rw[ab' h0 h1,bp]
def aah{f:Int}(h0:0<=f)(h1:f<256):(dj .i64 .and f 64!=0)=decide (has f 64):=by
 rw[cj];simp only[fM,ne_eq,decide_eq_true_eq];rw[VP h0 h1,bp]
def U6{f:Int}(h0:0<=f)(h1:f<256):(dj .i64 .and f 128!=0)=decide (has f 128):=by
 rw[cj];simp only[fM,ne_eq,decide_eq_true_eq];rw[QO h0 h1,bp]
def afI{f:Int}(h0:0<=f)(h1:f<256):(dj .i64 .and f 4!=0)=decide (has f 4):=by
 rw[cj];simp only[fM,ne_eq,decide_eq_true_eq];rw[MY h0 h1,bp]
def RK(G:oH W)(hd:yJ d)(hc:yJ c)(ht:t.a8<bO)(hf:0<=t.aq/\t.aq<256)(hz:t.a8=0->has t.aq 16\/has t.aq 32)
 (h:T W L (K (.tuple ⟨[.agg ⟨nm (de t d c).1⟩,.i (de t d c).2]⟩))):T W L (gA (km d c) (aN t) K):=by
 unfold gA;have j3:∀(r1 r2 r3 r4 n1:Nat),n1<bO->((if has t.aq 32/\(if has t.aq 32 then min n1 (ja c false) else n1)=0 then((0:Nat),(34:Int)) else(if has t.aq 32 then min n1 (ja c false) else n1,0))=de t d c)->
  T W (Sep.pt r4 (nm n1)::Sep.pt r3 (nm 0)::Sep.pt r2 (aN t)::Sep.pt r1 (km d c)::L) (gA.j3 K r2 r4 r1 r3):=by
  intro r1 r2 r3 r4 n1 hn1 he;unfold gA.j3;apply ws;rw[adN hf.1 hf.2];apply ga<;>intro g1
  ·rw[ai g1] at he
   repeat' first|apply ws|apply wb|first|refine KO G hc ?_|refine aas ?_|refine vR ?_
   apply ga<;>intro g2
   ·rw[ai ⟨g1,g2⟩] at he;rw[<-he] at h;rw[g2];apply ws;exact T.dp h
   ·rw[ag (λhh=>g2 hh.2)] at he;rw[<-he] at h;apply ws;exact T.dp h
  ·rw[ag (λhh=>g1 hh.1),ag g1] at he;rw[<-he] at h;apply ws;exact T.dp h
 have j2:∀(r1 r2 r3 r4:Nat),T W (Sep.pt r4 (nm (if t.a8=0 then bO-1 else t.a8))::Sep.pt r3 (nm 0)::Sep.pt r2 (aN t)::Sep.pt r1 (km d c)::L) (gA.j2 K r2 r4 r1 r3):=by
  intro r1 r2 r3 r4;have hn0:(if t.a8=0 then bO-1 else t.a8)<bO:=by unfold bO at *;split<;>omega
  unfold gA.j2;apply ws;rw[adO hf.1 hf.2];apply ga<;>intro g1
  ·repeat' first|apply ws|apply wb|first|refine KO G hd ?_|refine aas ?_|refine vR ?_
   apply ga<;>intro g2
   ·have he:de t d c=(0,33):=by unfold de;simp only[g1,g2,if_true,true_and]
    rw[he] at h;rw[g2];apply ws;exact T.dp h
   ·refine j3 _ _ _ _ _ (by have:=GG (p:=true) hd;omega) ?_;unfold de;simp only[g1,g2,if_true,true_and,if_false]
  ·apply j3 _ _ _ _ _ hn0;unfold de;simp only[g1,if_false,false_and]
 have aiE:(has t.aq 16\/has t.aq 32)->t.a8=0->(if t.a8=0 then bO-1 else t.a8)=bO-1:=λ_ h=>ai h
 repeat' first|apply ws;intros|apply wb|refine Hk hf ?_
 rename_i r1 r2 r3 r4;apply ga<;>intro g1
 ·repeat' first|apply ws|apply wb|refine vR ?_
  unfold gA.j1;apply ga<;>intro g2
  ·apply Pr ⟨zx _,G.XY⟩;apply ws;have:=j2 r1 r2 r3 r4;rw[ai g2] at this;exact this
  ·have:=j2 r1 r2 r3 r4;rw[ag g2] at this;exact this
 ·unfold gA.j1;apply jU;have:=j2 r1 r2 r3 r4;rw[ag (λhh=>g1 (hz hh))] at this;exact this
end
structure ah6(t:cH):Prop where
 aq:0<=t.aq/\t.aq<=255
 id0:t.id≠0
 idM:t.id≠bO-1
 tog:jo t.aq
 fresh:t.ay=0/\t.iE=0
 cB:0<=t.cB/\t.cB<=1073741824
 waits:0<t.cB->has t.aq 2
 ends:jZ t.aq->t.pending≠0/\(0<=t.bJ/\t.bJ<4294967296)/\(0<=t.code/\t.code<65536)
 cA: ¬jZ t.aq->t.bI≠t.aU/\t.pending=0/\(t.a8=0->has t.aq 16\/has t.aq 32)/\(1<=t.bJ/\t.bJ<4294967296)/\(1<=t.code/\t.code<65536)
def Dl{t:cH}(h:nL t=0):ah6 t:=by
 unfold nL at h;by_cases h1:t.aq<0\/255<t.aq
 ·rw[ai h1] at h;exact aT h (by decide)
 rw[ag h1] at h;by_cases h2:t.id=0
 ·rw[ai h2] at h;exact aT h (by decide)
 rw[ag h2] at h;by_cases h3:t.id=bO-1
 ·rw[ai h3] at h;exact aT h (by decide)
 rw[ag h3] at h;by_cases h4: ¬jo t.aq
 ·rw[ai h4] at h;exact aT h (by decide)
 rw[ag h4] at h;by_cases h5:t.ay≠0\/t.iE≠0
 ·rw[ai h5] at h;exact aT h (by decide)
 rw[ag h5] at h;by_cases h6:t.cB<0\/1073741824<t.cB\/0<t.cB/\ ¬has t.aq 2
 ·rw[ai h6] at h;exact aT h (by decide)
 rw[ag h6] at h;have hw:0<t.cB->has t.aq 2:=λh0=>bp.1 λhh=>h6 (.inr (.inr ⟨h0,hh⟩));by_cases he:jZ t.aq
 ·rw[ai he] at h;by_cases g1:t.pending=0
  ·rw[ai g1] at h;exact aT h (by decide)
  rw[ag g1] at h;by_cases g2:t.bJ<0\/4294967296<=t.bJ
  ·rw[ai g2] at h;exact aT h (by decide)
  rw[ag g2] at h;by_cases g3:t.code<0\/65536<=t.code
  ·rw[ai g3] at h;exact aT h (by decide)
  exact⟨by omega,h2,h3,bp.1 h4,by omega,by omega,hw,λ_=>⟨g1,by omega,by omega⟩,λhh=>aT he hh⟩
 ·rw[ag he] at h;by_cases g1:t.bI=0
  ·rw[ai g1] at h;exact aT h (by decide)
  rw[ag g1] at h;by_cases g2:t.aU=0
  ·rw[ai g2] at h;exact aT h (by decide)
  rw[ag g2] at h;by_cases g3:t.bI=t.aU
  ·rw[ai g3] at h;exact aT h (by decide)
  rw[ag g3] at h;by_cases g4:t.pending≠0
  ·rw[ai g4] at h;exact aT h (by decide)
  rw[ag g4] at h;by_cases g5:t.a8=0/\ ¬has t.aq 16/\ ¬has t.aq 32
  ·rw[ai g5] at h;exact aT h (by decide)
  rw[ag g5] at h;by_cases g6:t.bJ<1\/4294967296<=t.bJ
  ·rw[ai g6] at h;exact aT h (by decide)
  rw[ag g6] at h;by_cases g7:t.code<1\/65536<=t.code
  ·rw[ai g7] at h;exact aT h (by decide)
  refine⟨by omega,h2,h3,bp.1 h4,by omega,by omega,hw,λhh=>aT hh he,λ_=>⟨g3,by omega,λh0=>?_,by omega,by omega⟩⟩;by_cases q:has t.aq 16
  ·exact .inl q
  ·by_cases q2:has t.aq 32
   ·exact .inr q2
   ·exact aT ⟨h0,q,q2⟩ g5
section
variable {b:ba} {t:cH} {d c:bP} {n:Nat} {q:Bool}
def xx(hg:eB b){id:Nat}(hd:b.find id=some d):AG d/\d.id=id:=⟨hg.Tc d (nD hd),by simpa using List.find?_some hd⟩
def P6{s:Bool}(hd:AG d)(hm:(more d s n q).2=0):AG (more d s n q).1/\(more d s n q).1.id=d.id/\(more d s n q).1.ay=d.ay:=by
 obtain⟨⟨i1,i2,i3,i4,i5,i6,i7,i8,i9⟩,i10,i11,i12⟩:=hd;unfold more at hm⊢;cases s with
 |false=>
  simp only[cM,if_false] at hm⊢;by_cases h1:bO<=d.cp+d.cq+n
  ·rw[ai h1] at hm;exact aT hm (by show ¬(32:Int)=0;decide)
  by_cases h2:has d.aq 4/\ja d false<n
  ·rw[ag h1,ai h2] at hm;exact aT hm (by show ¬(34:Int)=0;decide)
  rw[ag h1,ag h2];cases q with
  |true=>exact⟨⟨⟨i1,i2,i3,by show d.cp+n<bO;omega,i5,i6,i7,i8,i9⟩,i10,i11,i12⟩,rfl,rfl⟩
  |false=>exact⟨⟨⟨i1,i2,i3,i4,by show d.cq+n<bO;omega,i6,i7,i8,i9⟩,i10,i11,i12⟩,rfl,rfl⟩
 |true=>
  simp only[if_true] at hm⊢;by_cases h1:bO<=d.dp+d.dq+n
  ·rw[ai h1] at hm;exact aT hm (by show ¬(32:Int)=0;decide)
  by_cases h2:has d.aq 2/\ja d true<n
  ·rw[ag h1,ai h2] at hm;exact aT hm (by show ¬(33:Int)=0;decide)
  rw[ag h1,ag h2];cases q with
  |true=>exact⟨⟨⟨i1,by show d.dp+n<bO;omega,i3,i4,i5,i6,i7,i8,i9⟩,i10,i11,i12⟩,rfl,rfl⟩
  |false=>exact⟨⟨⟨i1,i2,by show d.dq+n<bO;omega,i4,i5,i6,i7,i8,i9⟩,i10,i11,i12⟩,rfl,rfl⟩
def MN(hd:AG d){yes:Prop}[Decidable yes]:AG (close d yes)/\(close d yes).id=d.id/\(close d yes).ay=d.ay:=by
 obtain⟨⟨i1,i2,i3,i4,i5,i6,i7,i8,i9⟩,i10,i11,i12⟩:=hd;unfold close;split
 ·have hf:0<=d.aq%8+8/\d.aq%8+8<16:=by omega
  exact⟨⟨⟨i1,i2,i3,i4,i5,i6,i7,by show vS (d.aq%8+8);unfold vS;omega,i9⟩,⟨i10.1,i10.2.1,by show 0<=d.aq%8+8/\d.aq%8+8<=65535;omega⟩,hf,i12⟩,rfl,rfl⟩
 ·exact⟨⟨⟨i1,i2,i3,i4,i5,i6,i7,i8,i9⟩,i10,i11,i12⟩,rfl,rfl⟩
def Ie{a x:bP}{id:Nat}(hx:b.find id=some x)(kJ:a.id≠id):(b.bu a).find id=some x:=by
 unfold ba.find at *;show(b.aC.map λx=>if x.id=a.id then{a with ay:=x.ay} else x).find? _=_;rw[List.find?_map];have:((λy:bP=>decide (y.id=id))∘λx=>if x.id=a.id then{a with ay:=x.ay} else x)=λy:bP=>decide (y.id=id):=by
  funext y
  simp only[Function.comp];by_cases e:y.id=a.id<;>simp[e]
 rw[this,hx];have hxi:x.id=id:=by simpa using List.find?_some hx
 simp only[fm];rw[ag (by rw[hxi];exact λh=>kJ h.symm)]
def wF(hg:eB b){id:Nat}{k:cr}(hk:b.named id=some k):KG k/\k.move.id=id:=⟨hg.SR k (nD hk),by simpa using List.find?_some hk⟩
end
section
variable {W:World} {L R:LH} {K:VK} {X:WK} {p:Nat} {b:ba} {hs:List C} {f:ba×List C->LH} {t:cH} {d c:bP} {n:Nat}
def RJ(h1:nL t=0)(h2: ¬jZ t.aq)(h3:b.named t.id=none)(h4:b.find t.bI=some d)(h5:b.find t.aU=some c)(h6:uQ (some d) (some c) t=0):
 jI t (b.named t.id) (b.find t.bI) (b.find t.aU) b.ax.length=(if 96<=b.ax.length then(35,0)
  else if(de t d c).2≠0 then((de t d c).2,0)
  else if(more d true (de t d c).1 (decide (has t.aq 2))).2≠0 then((more d true (de t d c).1 (decide (has t.aq 2))).2,0)
  else if(more c false (de t d c).1 (decide (has t.aq 2))).2≠0 then((more c false (de t d c).1 (decide (has t.aq 2))).2,0)
  else(0,(de t d c).1)):=by
 unfold uQ at h6;dsimp only at h6;unfold jI;rw[ag (by simpa using h1),ag h2,h3,h4,h5];dsimp only;by_cases g1:d.bJ≠c.bJ
 ·rw[ai g1] at h6;cases h6
 by_cases g2:d.bJ≠t.bJ
 ·rw[ag g1,ai g2] at h6;cases h6
 by_cases g3:8<=d.aq
 ·rw[ag g1,ag g2,ai g3] at h6;cases h6
 by_cases g4:8<=c.aq
 ·rw[ag g1,ag g2,ag g3,ai g4] at h6;cases h6
 rw[ag g1,ag g2,ag g3,ag g4]
def Z0(G:oH W)(ht:yF t)(UL:kH t)(hl:hs.length<800000)[i:Lc (cL p) L (b,hs) f]
 (h:∀fF,Ext (fS b) hs (fS (b.move t).2) fF 6->T W (f ((b.move t).2,fF)) (K (.i (b.move t).1))):T W L (qp (ah p) (aN t) K):=by
 have hL:f (b,hs)=L:=i.same;refine qZ (p:=p) λhg=>?_;have bad:∀r:Int,r≠0->(jI t (b.named t.id) (b.find t.bI) (b.find t.aU) b.ax.length).1=r->T W L (K (.i r)):=by
  intro r hr he;have e:b.move t=(r,b):=by unfold ba.move;dsimp only;rw[he,ai hr]
  rw[e] at h;have:=h hs (Ext.refl _ _ _);rw[hL] at this;exact this
 unfold qp
 repeat' first|apply ws;intros|apply wb|refine Lh G ht ?_
 apply dz<;>intro g1
 ·have g1:nL t≠0:=by simpa using g1
  have:=bad (nL t) g1 (by unfold jI;rw[ai g1]);exact T.dp this
 have g1:nL t=0:=by simpa using g1
 have ck:=Dl g1;have hf:0<=t.aq/\t.aq<256:=by have:=ck.aq;omega
 repeat' first|apply ws|apply wb|refine KQ hf ?_
 apply ga<;>intro g2
 ·have:=bad 6 (by decide) (by unfold jI;rw[ag (by simpa using g1),ai g2]);exact T.dp this
 repeat' first|apply ws;intros|apply wb|refine KH ?_
 cases hn:b.named t.id with
 |some k=>
  obtain⟨hk,_⟩:=wF hg hn;simp only[dL,dI]
  repeat' first|apply ws|apply wb|refine Li hf hk.vQ ?_
  have:=bad (tK t k.asked) (tJ _ _) (by unfold jI;rw[ag (by simpa using g1),ag g2,hn]);exact T.dp this
 |none=>
 simp only[ff,gQ];have key:∀(d c:Option bP),b.find t.bI=d->b.find t.aU=c->uQ d c t≠0->(jI t (b.named t.id) (b.find t.bI) (b.find t.aU) b.ax.length).1=uQ d c t:=by
  intro d c hd hc kJ;rw[hd,hc,hn];unfold jI;rw[ag (by simpa using g1),ag g2];dsimp only;cases d with
  |none=>rfl
  |some d=>
   cases c with
   |none=>rfl
   |some c=>
    unfold uQ at kJ⊢;dsimp only at kJ⊢;by_cases g1:d.bJ≠c.bJ
    ·rw[ai g1,ai g1]
    by_cases g2:d.bJ≠t.bJ
    ·rw[ag g1,ai g2,ag g1,ai g2]
    by_cases g3:8<=d.aq
    ·rw[ag g1,ag g2,ai g3,ag g1,ag g2,ai g3]
    by_cases g4:8<=c.aq
    ·rw[ag g1,ag g2,ag g3,ai g4,ag g1,ag g2,ag g3,ai g4]
    rw[ag g1,ag g2,ag g3,ag g4] at kJ;exact aT rfl kJ
 apply ws;refine X1 (λd c kJ=>?_) (λd c hd hc he=>?_)
 ·apply ws;intros;apply ir (by simpa using kJ);have:=bad _ kJ (key _ _ rfl rfl kJ);exact T.dp this
 apply ws;intros;obtain⟨gd,HO⟩:=xx hg hd;obtain⟨gc,Hq⟩:=xx hg hc;rw[hd,hc] at he;have Qy:=RJ (b:=b) g1 g2 hn hd hc he;apply ef (by simp)
 repeat' first|apply ws|apply wb|refine Wc ?_
 by_cases g3:96<=b.ax.length
 ·rw[ao (by omega)];apply ws;have:=bad 35 (by decide) (by rw[Qy,ai g3]);exact T.dp this
 rw[aw (by omega)];rw[ag g3] at Qy;obtain⟨kJ,ah9,Yw,aiv,aad⟩:=ck.cA g2
 repeat' first|apply ws;intros|apply wb|refine RK G gd.ok gc.ok ht.a8 hf Yw ?_
 apply dz<;>intro g4
 ·have g4:(de t d c).2≠0:=by simpa using g4
  have:=bad _ g4 (by rw[Qy,ai g4]);exact T.dp this
 have g4: ¬(de t d c).2≠0:=by simpa using g4
 rw[ag g4] at Qy;have I6:(de t d c).1<bO:=by
  have h1:=GG (p:=true) gd.ok;have h2:=GG (p:=false) gc.ok;have h3:=ht.a8;unfold de bO at *;dsimp only
  repeat' split
  all_goals first|(show(0:Nat)<_;omega)|(show min _ _<_;omega)|(show _<_;split<;>omega)|omega
 generalize hN:(de t d c).1=N at *
 repeat' first|apply ws|apply wb|first|refine vj hf ?_|refine Zs G gd.ok I6 ⟨gd.aq.1,by have:=gd.aq.2;omega⟩ ?_
 apply dz<;>intro g5
 ·have g5:(more d true N (decide (has t.aq 2))).2≠0:=by simpa using g5
  have:=bad _ g5 (by rw[Qy,ai g5]);exact T.dp this
 have g5: ¬(more d true N (decide (has t.aq 2))).2≠0:=by simpa using g5
 rw[ag g5] at Qy
 repeat' first|apply ws|apply wb|first|refine vj hf ?_|refine Wq G gc.ok I6 ⟨gc.aq.1,by have:=gc.aq.2;omega⟩ ?_
 apply dz<;>intro g6
 ·have g6:(more c false N (decide (has t.aq 2))).2≠0:=by simpa using g6
  have:=bad _ g6 (by rw[Qy,ai g6]);exact T.dp this
 have g6: ¬(more c false N (decide (has t.aq 2))).2≠0:=by simpa using g6
 rw[ag g6] at Qy;obtain⟨md,mdi,mds⟩:=P6 (q:=decide (has t.aq 2)) gd (bp.1 g5);obtain⟨mc,mci,mcs⟩:=P6 (q:=decide (has t.aq 2)) gc (bp.1 g6);have e:b.move t=(0,b.DN t N):=by unfold ba.move;dsimp only;rw[Qy];rfl
 rw[e] at h;have em:b.DN t N=((b.bu (close (more d true N (decide (has t.aq 2))).1 (has t.aq 64))).bu (close (more c false N (decide (has t.aq 2))).1 (has t.aq 128))).mw t {t with a8:=N} (waits t):=by unfold ba.DN;rw[hd,hc]
 rw[em] at h;have last:∀(D C:bP)(r1 r2 r3 r4:Nat),AG D->AG C->D.id=d.id->C.id=c.id->D.ay=d.ay->C.ay=c.ay->
    (∀fF,Ext (fS b) hs (fS (((b.bu D).bu C).mw t {t with a8:=N} (waits t))) fF 6->T W (f (((b.bu D).bu C).mw t {t with a8:=N} (waits t),fF)) (K (.i 0)))->
    T W (Sep.pt r4 (nm N)::Sep.pt r3 (km D C)::Sep.pt r2 (bM zK)::Sep.pt r1 (aN t)::L) (qp.j2 K r3 (ah p) r1 r4):=by
  intro D C r1 r2 r3 r4 gD gC hDi hCi hDs hCs hh;have hfd:b.find D.id=some d:=by rw[hDi,HO];exact hd
  have eD:({D with ay:=d.ay}:bP)=D:=by rw[<-hDs]
  have eC:({C with ay:=c.ay}:bP)=C:=by rw[<-hCs]
  have hfc:(b.bu D).find C.id=some c:=Ie (by rw[hCi,Hq];exact hc) (by rw[hDi,hCi,HO,Hq];exact kJ);have tr:=hg.ay;have oJ:=hg.oJ;have many:=hg.many;unfold qp.j2;apply ws;refine Kz (p:=p) hfd (by rw[eD];exact gD) (by omega) λBs x1=>?_;have l1:=x1.len;have i1:=i.next (b.bu D,Bs);apply ws;refine Kz (p:=p) hfc (by rw[eC];exact gC) (by omega) λib x2=>?_;have l2:=x2.len;have i2:=i.next ((b.bu D).bu C,ib)
  repeat' first|apply ws;intros|apply wb|refine vj hf ?_
  have hkg:KG (uq ((b.bu D).bu C) t {t with a8:=N} (waits t)):=by
   have cl:=hg.clock;refine⟨ht,⟨ht.id,ht.bI,ht.aU,I6,ht.pending,ht.cB,ht.bJ,ht.code,ht.aq,?_,?_⟩,UL,UL,hf,hf,?_,ck.cB,cl⟩
   ·show vS (b.ay+1);unfold vS;omega
   ·show vS b.clock;unfold vS;omega
   ·show 0<=waits t/\waits t<=4;unfold Md.waits;split<;>decide
  have Nn:((b.bu D).bu C).named ({t with a8:=N}:cH).id=none:=hn;refine PG (p:=p) (waits:=decide (has t.aq 2)) Nn (show b.ax.length<96 by omega) hkg (by unfold Md.waits;by_cases q:has t.aq 2<;>simp[q]) (by omega) λvU x3=>?_;apply ws;have:=hh vU (((x1.trans x2).trans x3).mono (by omega));exact T.dp this
 obtain⟨cd,cdi,cds⟩:=MN (yes:=has t.aq 64) md;obtain⟨cc,cci,ccs⟩:=MN (yes:=has t.aq 128) mc;have Z1:∀(D:bP)(r1 r2 r3 r4:Nat),D=close (more d true N (decide (has t.aq 2))).1 (has t.aq 64)->T W (Sep.pt r4 (nm N)::Sep.pt r3 (km D (more c false N (decide (has t.aq 2))).1)::Sep.pt r2 (bM zK)::Sep.pt r1 (aN t)::L) (qp.j1 K r1 r3 (ah p) r4):=by
  intro D r1 r2 r3 r4 hD;unfold qp.j1;apply ws;rw[U6 hf.1 hf.2];have fin:=last D (close (more c false N (decide (has t.aq 2))).1 (has t.aq 128)) r1 r2 r3 r4 (by rw[hD];exact cd) cc (by rw[hD,cdi,mdi]) (by rw[cci,mci]) (by rw[hD,cds,mds]) (by rw[ccs,mcs]) (by rw[hD];exact h);apply ga<;>intro q
  ·apply ws;rw[aeM mc.aq.1 mc.aq.2];unfold close at fin;rw[ai q] at fin;exact fin
  ·unfold close at fin;rw[ag q] at fin;exact fin
 apply ws;rw[aah hf.1 hf.2];apply ga<;>intro q
 ·apply ws;rw[aeM md.aq.1 md.aq.2];exact Z1 _ _ _ _ _ (by unfold close;rw[ai q])
 ·exact Z1 _ _ _ _ _ (by unfold close;rw[ag q])
end
section
variable {m t:cH} {x1 x2 x3 x4 x5 x6 x7 x8 x9 Fi Fh Fg Ff Jx NC NA:Value} {n:Nat} {i:Int}
instance:Wr (aN m) 2 (nm n) (aN {m with bI:=n}):=⟨rfl,by show 4<=16;decide,oV n⟩
instance:Wr (aN m) 4 (nm n) (aN {m with aU:=n}):=⟨rfl,by show 6<=16;decide,oV n⟩
end
section
variable {W:World} {L R:LH} {K:VK} {X:WK} {p:Nat} {b:ba} {hs:List C} {f:ba×List C->LH} {t q:cH} {d c:bP} {n:Nat} {fate:Int} {k:cr}
def XW(h:T W L (K (.b (decide (¬fU t q))))):T W L (gJ (aN t) (aN q) K):=by
 unfold gJ;have j3:∀(r1 r2:Nat)(x:Bool),((x=true/\(t.code=0\/t.code=q.code))↔ ¬fU t q)->T W (Sep.pt r2 (aN q)::Sep.pt r1 (aN t)::L) (gJ.j3 K r1 r2 x):=by
  intro r1 r2 x hx;unfold gJ.j3;apply dz<;>intro g
  ·repeat' first|apply ws|apply wb|apply dz<;>intro h1
   ·have h1:t.code=0:=by simpa using h1
    rw[aw (hx.1 ⟨g,.inl h1⟩)] at h;exact T.dp h
   ·have h1: ¬t.code=0:=by simpa using h1
    apply T.fin (T.dp h)
    congr 1
    rw[cj];simp only[wK,decide_eq_true_eq];rw[<-hx]
    constructor
    ·exact λe=>⟨g,.inr e⟩
    ·rintro⟨_,e|e⟩
     ·exact aT e h1
     ·exact e
  ·rw[ao (λhh=>by rw[(hx.2 hh).1] at g;cases g)] at h;exact T.dp h
 have j2:∀(r1 r2:Nat)(x:Bool),((x=true/\(t.bJ=0\/t.bJ=q.bJ)/\(t.code=0\/t.code=q.code))↔ ¬fU t q)->T W (Sep.pt r2 (aN q)::Sep.pt r1 (aN t)::L) (gJ.j2 K r1 r2 x):=by
  intro r1 r2 x hx;unfold gJ.j2;apply dz<;>intro g
  ·repeat' first|apply ws|apply wb|with_reducible apply dz<;>intro h1
   ·have h1:t.bJ=0:=by simpa using h1
    exact j3 _ _ _ (by rw[<-hx];simp[g,h1])
   ·have h1: ¬t.bJ=0:=by simpa using h1
    exact j3 _ _ _ (by rw[<-hx];simp[g,h1])
  ·exact j3 _ _ _ (by rw[<-hx];simp[g])
 have j1:∀(r1 r2:Nat)(x:Bool),((x=true/\(t.aU=0\/t.aU=q.aU)/\(t.bJ=0\/t.bJ=q.bJ)/\(t.code=0\/t.code=q.code))↔ ¬fU t q)->T W (Sep.pt r2 (aN q)::Sep.pt r1 (aN t)::L) (gJ.j1 K r1 r2 x):=by
  intro r1 r2 x hx;unfold gJ.j1;apply dz<;>intro g
  ·repeat' first|apply ws|apply wb|with_reducible first|refine vR ?_|apply dz<;>intro h1
   ·have h1:=aR h1;exact j2 _ _ _ (by rw[<-hx];simp[g,h1])
   ·have h1:=bj h1;exact j2 _ _ _ (by rw[<-hx];simp[g,h1])
  ·exact j2 _ _ _ (by rw[<-hx];simp[g])
 have Hp:((t.bI=0\/t.bI=q.bI)/\(t.aU=0\/t.aU=q.aU)/\(t.bJ=0\/t.bJ=q.bJ)/\(t.code=0\/t.code=q.code))↔ ¬fU t q:=by unfold fU;omega
 repeat' first|apply ws;intros|apply wb|with_reducible first|refine vR ?_|apply dz<;>intro h1
 ·have h1:=aR h1;exact j1 _ _ _ (by rw[<-Hp];simp[h1])
 ·have h1:=bj h1;exact j1 _ _ _ (by rw[<-Hp];simp[h1])
def oz(pend:Option cr)(t:cH):Int:=match pend with
 |none=>23
 |some k=>if ¬has k.move.aq 2 then 24 else if fU t k.move then 25 else if 1<k.fate then 25+k.fate else 0
def Yo(G:oH W)[i:Lc (cL p) L (b,hs) f](h0:∀m,oz (b.named t.pending) t≠0->T W L (K (.tuple ⟨[.agg ⟨aN m⟩,.i (oz (b.named t.pending) t)]⟩)))
 (h:∀k,b.named t.pending=some k->oz (b.named t.pending) t=0->T W L (K (.tuple ⟨[.agg ⟨aN k.move⟩,.i 0]⟩))):T W L (Ai (ah p) (aN t) K):=by
 refine qZ (p:=p) λhg=>?_;unfold Ai
 repeat' first|apply ws;intros|apply wb|refine KH ?_
 cases hn:b.named t.pending with
 |none=>
  rw[hn] at h0;simp only[ff,gQ];have:=h0 zT (by show(23:Int)≠0;decide);apply ws;exact T.dp this
 |some k=>
  rw[hn] at h0 h;obtain⟨kg,_⟩:=wF hg hn;simp only[dL,dI]
  repeat' first|apply ws|apply wb|refine vj kg.xk ?_
  by_cases g1:has k.move.aq 2
  ·rw[aw g1]
   repeat' first|apply ws|apply wb|refine XW ?_
   by_cases g2:fU t k.move
   ·have e:oz (some k) t=25:=by unfold oz;dsimp only;rw[ag (λh=>h g1),ai g2]
    rw[e] at h0;have:=h0 zT (by decide);rw[ao (λh=>h g2)];apply ws;exact T.dp this
   ·rw[aw g2];obtain⟨f1,f2⟩:=kg.fate;have e:oz (some k) t=if 1<k.fate then 25+k.fate else 0:=by unfold oz;dsimp only;rw[ag (λh=>h g1),ag g2]
    obtain⟨fn,S5⟩:∃fn:Nat,k.fate=fn:=⟨k.fate.toNat,by omega⟩;have S6:fn<5:=by omega
    have WC:([.i 0,.i 0,.i 27,.i 28,.i 29]:LV)[fn]?=some (.i (if 1<k.fate then 25+k.fate else 0)):=by
     rw[S5]
     match fn,S6 with
     |0,_=>rfl
     |1,_=>rfl
     |2,_=>rfl
     |3,_=>rfl
     |4,_=>rfl
    apply ws;refine dU ⟨f1,by omega⟩ ?_;have hnt:k.fate.toNat* 1=fn:=by omega
    rw[hnt];have AM:=G.told fn _ WC;refine λw ib=>⟨_,by rw[ib.old (E6 AM)];exact AM,?_⟩;refine T.at ?_ ib;apply ws;refine λw ib=>⟨λj v hj=>?_,?_⟩
    ·match j,hj with
     |0,hj=>
      simp at hj;subst hj;have Ow:=AM;rw[ia,aB] at Ow;rw[ia,gM,ib.old (E6 Ow)];exact Ow
    refine T.at ?_ ib;apply ws;rw[<-e];by_cases g3:oz (some k) t=0
    ·rw[g3];have:=h k rfl g3;exact T.dp this
    ·have:=h0 k.move g3;exact T.dp this
  ·have e:oz (some k) t=24:=by unfold oz;dsimp only;rw[ai g1]
   rw[e] at h0;have:=h0 zT (by decide);rw[ao g1];apply ws;exact T.dp this
def adM{f:Int}(h0:0<=f)(h1:f<256):(dj .i64 .and f 8!=0)=decide (has f 8):=by
 rw[cj];simp only[fM,ne_eq,decide_eq_true_eq];rw[VO h0 h1,bp]
def Sa(hf:0<=t.aq/\t.aq<256)(h48:has t.aq 8↔ ¬has t.aq 4)(h0:my t q->T W L (K (.tuple ⟨[.agg ⟨nm 0⟩,.i 26]⟩)))
 (h: ¬my t q->T W L (K (.tuple ⟨[.agg ⟨nm (dD t q)⟩,.i 0]⟩))):T W L (po (aN t) (aN q) K):=by
 unfold po
 repeat' first|apply ws;intros|apply wb|refine vR ?_
 apply ga<;>intro g1
 ·have e:dD t q=q.a8:=ai g1;have hb: ¬my t q:=by unfold my;rw[e];omega
  have:=h hb;rw[e] at this;apply ws;exact T.dp this
 have e:dD t q=t.a8:=ag g1;unfold po.j1;apply ws;rw[adM hf.1 hf.2];apply ga<;>intro g2
 ·apply ws;by_cases g3:t.a8=q.a8
  ·have hb: ¬my t q:=by
    unfold my;rw[e];have:=h48.1 g2;rintro(⟨h4,_⟩|⟨_,h4⟩)
    ·exact this h4
    ·exact h4 g3
   have:=h hb;rw[e] at this;rw[aw g3]
   repeat' first|apply ws|apply wb|refine Du ?_
   refine ef (by simp;omega) ?_;apply ws;exact T.dp this
  ·have hb:my t q:=.inr ⟨h48.1 g2,by rw[e];exact g3⟩;have:=h0 hb;rw[ao g3];apply ws;exact T.dp this
 ·have g4:has t.aq 4:=bp.1 λhh=>g2 (h48.2 hh)
  repeat' first|apply ws|apply wb|refine Du ?_
  apply ga<;>intro g3
  ·have:=h0 (.inl ⟨g4,by rw[e];exact g3⟩);apply ws;exact T.dp this
  ·have:=h (by
    rintro(⟨_,h4⟩|⟨h4,_⟩)
    ·rw[e] at h4;exact g3 h4
    ·exact h4 g4)
   rw[e] at this;apply ws;exact T.dp this
def abG{f:Int}(h0:0<=f)(h1:f<256):(dj .i64 .and f 64==0)=decide (¬has f 64):=by
 rw[cj];simp only[wK,decide_eq_true_eq];rw[VP h0 h1]
def Yu{f:Int}(h0:0<=f)(h1:f<256):(dj .i64 .and f 128==0)=decide (¬has f 128):=by
 rw[cj];simp only[wK,decide_eq_true_eq];rw[QO h0 h1]
def R9[i:Lc (cL p) L (b,hs) f](hq:0<=q.aq/\q.aq<256)(hd:b.find q.bI=some d)(hc:b.find q.aU=some c)
 (h:T W L (K (.i (if 8<=d.aq/\ ¬has q.aq 64 then 30 else if 8<=c.aq/\ ¬has q.aq 128 then 31 else 0)))):T W L (nZ (ah p) (aN q) K):=by
 refine qZ (p:=p) λhg=>?_;have fd:=(hg.Tc d (nD hd)).aq;have fc:=(hg.Tc c (nD hc)).aq;unfold nZ
 repeat' first|apply ws;intros|apply wb|refine xJ ?_
 rw[hd,hc];simp only[dL,dI];rename_i r1 r2 r3;have j1:∀x:Bool,(x=true↔(8<=d.aq/\ ¬has q.aq 64))->T W (Sep.pt r3 (aO c)::Sep.pt r2 (aO d)::Sep.pt r1 (aN q)::L) (nZ.j1 K r3 r1 x):=by
  intro x hx;unfold nZ.j1;apply dz<;>intro g
  ·rw[ai (hx.1 g)] at h;exact T.dp h
  rw[ag (λhh=>by rw[hx.2 hh] at g;cases g)] at h;apply ws;rw[Yt fc.1 fc.2];apply ga<;>intro g1
  ·apply ws;rw[Yu hq.1 hq.2];apply ga<;>intro g2
   ·rw[ai ⟨g1,g2⟩] at h;exact T.dp h
   ·rw[ag (λhh=>g2 hh.2)] at h;exact T.dp h
  ·rw[ag (λhh=>g1 hh.1)] at h;exact T.dp h
 rw[Yt fd.1 fd.2];apply ga<;>intro g1
 ·apply ws;rw[abG hq.1 hq.2];exact j1 _ (by simp[g1])
 ·exact j1 _ (by simp[g1])
end
section
variable {b:ba} {t q:cH} {d c:bP} {n:Nat} {fate:Int}
def Xy(hd:AG d)(hn:fate=2->d.dq+n<bO):AG (AX d q n fate):=by
 obtain⟨⟨i1,i2,i3,i4,i5,i6,i7,i8,i9⟩,i10,i11,i12⟩:=hd;have hf:0<=d.aq%8/\d.aq%8<16:=by omega
 unfold AX open_;split
 ·exact⟨⟨i1,by show d.dp-q.a8<bO;omega,by show d.dq+n<bO;exact hn (by assumption),i4,i5,i6,i7,i8,i9⟩,i10,i11,i12⟩
 ·split
  ·exact⟨⟨i1,by show d.dp-q.a8<bO;omega,i3,i4,i5,i6,i7,by show vS (d.aq%8);unfold vS;omega,i9⟩,⟨i10.1,i10.2.1,by show 0<=d.aq%8/\d.aq%8<=65535;omega⟩,hf,i12⟩
  ·exact⟨⟨i1,by show d.dp-q.a8<bO;omega,i3,i4,i5,i6,i7,i8,i9⟩,i10,i11,i12⟩
def Xz(hd:AG d)(hn:fate=2->d.cq+n<bO):AG (BW d q n fate):=by
 obtain⟨⟨i1,i2,i3,i4,i5,i6,i7,i8,i9⟩,i10,i11,i12⟩:=hd;have hf:0<=d.aq%8/\d.aq%8<16:=by omega
 unfold BW open_;split
 ·exact⟨⟨i1,i2,i3,by show d.cp-q.a8<bO;omega,by show d.cq+n<bO;exact hn (by assumption),i6,i7,i8,i9⟩,i10,i11,i12⟩
 ·split
  ·exact⟨⟨i1,i2,i3,by show d.cp-q.a8<bO;omega,i5,i6,i7,by show vS (d.aq%8);unfold vS;omega,i9⟩,⟨i10.1,i10.2.1,by show 0<=d.aq%8/\d.aq%8<=65535;omega⟩,hf,i12⟩
  ·exact⟨⟨i1,i2,i3,by show d.cp-q.a8<bO;omega,i5,i6,i7,i8,i9⟩,i10,i11,i12⟩
end
section
variable {W:World} {L R:LH} {K:VK} {X:WK} {p:Nat} {b:ba} {hs:List C} {f:ba×List C->LH} {t q:cH} {d c:bP} {n:Nat} {fate:Int} {k:cr}
def Iu[i:Lc (cL p) L (b,hs) f](hk:b.named q.id=some k)(Yk:k.fate=1)(hq:0<=q.aq/\q.aq<256)(hqa:q.a8<bO)(I6:n<bO)(hd:b.find q.bI=some d)(hc:b.find q.aU=some c)(kJ:q.bI≠q.aU)(hf:fate=2\/fate=3\/fate=4)
 (HM:fate=2->d.dq+n<bO)(vX:fate=2->c.cq+n<bO)(hl:hs.length<800000)
 (h:∀fF,Ext (fS b) hs (fS (b.release q n fate)) fF 4->T W (f (b.release q n fate,fF)) (K (.tuple ⟨[]⟩))):T W L (eo (ah p) (aN q) (nm n) fate K):=by
 refine qZ (p:=p) λhg=>?_;obtain⟨gd,HO⟩:=xx hg hd;obtain⟨gc,Hq⟩:=xx hg hc;have er:b.release q n fate=((b.bu (AX d q n fate)).bu (BW c q n fate)).fate q.id fate:=by unfold ba.release;rw[hd,hc]
 rw[er] at h;have last:∀(D E:bP)(r1 r2 r3 r4:Nat),D=AX d q n fate->E=BW c q n fate->T W (Sep.pt r4 (aO E)::Sep.pt r3 (aO D)::Sep.pt r2 (nm n)::Sep.pt r1 (aN q)::L) (eo.j1 K r3 (ah p) r4 r1 fate):=by
  intro D E r1 r2 r3 r4 hD hE;have hDi:D.id=d.id:=by rw[hD];exact(JS _ _ _ _).1
  have hEi:E.id=c.id:=by rw[hE];exact(JT _ _ _ _).1
  have gD:AG {D with ay:=d.ay}:=by
   have:=Xy (q:=q) (n:=n) (fate:=fate) gd HM;rw[<-hD] at this;have es:D.ay=d.ay:=by rw[hD];exact(JS _ _ _ _).2
   have e2:({D with ay:=d.ay}:bP)=D:=by rw[<-es]
   rw[e2];exact this
  have gE:AG {E with ay:=c.ay}:=by
   have:=Xz (q:=q) (n:=n) (fate:=fate) gc vX;rw[<-hE] at this;have es:E.ay=c.ay:=by rw[hE];exact(JT _ _ _ _).2
   have e2:({E with ay:=c.ay}:bP)=E:=by rw[<-es]
   rw[e2];exact this
  rw[<-hD,<-hE] at h;unfold eo.j1;apply ws;refine Kz (p:=p) (by rw[hDi,HO];exact hd) gD (by omega) λBs x1=>?_;have l1:=x1.len;have i1:=i.next (b.bu D,Bs);apply ws;refine Kz (p:=p) (old:=c) (Ie (by rw[hEi,Hq];exact hc) (by rw[hDi,hEi,HO,Hq];exact kJ)) gE (by omega) λib x2=>?_;have l2:=x2.len;have i2:=i.next ((b.bu D).bu E,ib);apply ws;refine aaW (p:=p) (k:=k) (show((b.bu D).bu E).named q.id=some k from hk) Yk hf (by omega) λvU x3=>?_;apply ws;have:=h vU (((x1.trans x2).trans x3).mono (by omega));exact T.dp this
 have acS:∀x y:Nat,(if x<y then 0 else x-y)=x-y:=λx y=>by split<;>omega
 unfold eo
 repeat' first|apply ws;intros|apply wb|refine xJ ?_
 rw[hd,hc];simp only[dL,dI]
 repeat' first|apply ws|apply wb|first|refine V6 gd.ok.dp hqa ?_|refine V6 gc.ok.cp hqa ?_
 rw[acS,acS];apply dz<;>intro g1
 ·have g1:fate=2:=by simpa using g1
  repeat' first|apply ws|apply wb|first|refine Ef gd.ok.dq I6 ?_|refine Ef gc.ok.cq I6 ?_
  rw[ai (HM g1),ai (vX g1)];refine last _ _ _ _ _ _ ?_ ?_
  ·unfold AX;rw[ai g1]
  ·unfold BW;rw[ai g1]
 ·have g1: ¬fate=2:=by simpa using g1
  have j2:∀(D:bP)(r1 r2 r3 r4:Nat),D=AX d q n fate->T W (Sep.pt r4 (aO {c with cp:=c.cp-q.a8})::Sep.pt r3 (aO D)::Sep.pt r2 (nm n)::Sep.pt r1 (aN q)::L) (eo.j2 K r1 r4 r3 (ah p) fate):=by
   intro D r1 r2 r3 r4 hD;unfold eo.j2;apply ws;rw[U6 hq.1 hq.2];apply ga<;>intro g2
   ·apply ws;rw[aal gc.aq.1 gc.aq.2];apply last _ _ _ _ _ _ hD;unfold BW open_;rw[ag g1,ai g2]
   ·apply last _ _ _ _ _ _ hD;unfold BW open_;rw[ag g1,ag g2]
  apply ws;rw[aah hq.1 hq.2];apply ga<;>intro g2
  ·apply ws;rw[aal gd.aq.1 gd.aq.2];apply j2 _ _ _ _ _;unfold AX open_;rw[ag g1,ai g2]
  ·apply j2 _ _ _ _ _;unfold AX open_;rw[ag g1,ag g2]
structure M'(b:ba)(k:cr):Prop where
 bI:∃d,b.find k.move.bI=some d/\k.move.a8<=d.dp/\d.dp+d.dq<bO
 aU:∃c,b.find k.move.aU=some c/\k.move.a8<=c.cp/\c.cp+c.cq<bO
 ne:k.move.bI≠k.move.aU
def OD{id:Nat}(hn:b.named id=none){id':Nat}:(b.fate id' fate).named id=none:=by
 unfold ba.named at *;rw[ql] at *;intro x hx;obtain⟨y,hy,rfl⟩:=cV.1 hx;have:=hn y hy;split<;>exact this
def HB{id:Nat}(hn:b.named id=none):(b.release q n fate).named id=none:=by
 unfold ba.release;split
 ·exact OD hn
 ·exact hn
def abC(G:oH W)(ht:yF t)(UL:kH t)(uK:nL t=0)(sf:jZ t.aq)(hw:∀k∈b.ax,has k.move.aq 2->k.fate<=1->k.fate=1/\M' b k)(hl:hs.length<800000)[i:Lc (cL p) L (b,hs) f]
 (h:∀fF,Ext (fS b) hs (fS (b.pE t).2) fF 8->T W (f ((b.pE t).2,fF)) (K (.i (b.pE t).1))):T W L (sK (ah p) (aN t) K):=by
 have hL:f (b,hs)=L:=i.same;refine qZ (p:=p) λhg=>?_;have ck:=Dl uK;have hf:0<=t.aq/\t.aq<256:=by have:=ck.aq;omega
 have bad:∀r:Int,r≠0->(b.pE t)=(r,b)->T W L (K (.i r)):=by
  intro r hr e;rw[e] at h;have:=h hs (Ext.refl _ _ _);rw[hL] at this;exact this
 unfold sK
 repeat' first|apply ws;intros|apply wb|refine KH ?_
 cases hn:b.named t.id with
 |some k=>
  obtain⟨hk,_⟩:=wF hg hn;simp only[dL,dI]
  repeat' first|apply ws|apply wb|refine Li hf hk.vQ ?_
  have:=bad (tK t k.asked) (tJ _ _) (by
   unfold ba.pE
   have e1:∀(pend:Option cr)(x y:Bool)(m:Nat),oC t (some k) pend x y m=tK t k.asked:=by
    intro pend x y m;unfold oC;rw[ag (by simpa using uK),ag (by simpa using sf)]
   rw[hn]
   cases b.named t.pending with
   |none=>dsimp only;rw[e1]
   |some k2=>dsimp only;rw[e1,ai (tJ _ _)])
  exact T.dp this
 |none=>
 simp only[ff,gQ];apply ws;have Qy:∀(k2:cr),b.named t.pending=some k2->∀(x y:Bool)(m:Nat),oC t none (some k2) x y m=(if oz (some k2) t≠0 then oz (some k2) t else if my t k2.move then 26 else if has t.aq 4/\x=true then 30 else if has t.aq 4/\y=true then 31 else if 96<=m then 35 else 0):=by
  intro k2 _ x y m;unfold oC;rw[ag (by simpa using uK),ag (by simpa using sf)];dsimp only;by_cases g1: ¬has k2.move.aq 2
  ·have hv:oz (some k2) t=24:=by unfold oz;dsimp only;rw[ai g1]
   rw[hv,ai g1,ai (by decide)]
  by_cases g2:fU t k2.move
  ·have hv:oz (some k2) t=25:=by unfold oz;dsimp only;rw[ag g1,ai g2]
   rw[hv,ag g1,ai g2,ai (by decide)]
  by_cases g3:1<k2.fate
  ·have hv:oz (some k2) t=25+k2.fate:=by unfold oz;dsimp only;rw[ag g1,ag g2,ai g3]
   rw[hv,ag g1,ag g2,ai g3,ai (by omega)]
  ·have hv:oz (some k2) t=0:=by unfold oz;dsimp only;rw[ag g1,ag g2,ag g3]
   rw[hv,ag g1,ag g2,ag g3,ag (show ¬((0:Int)≠0) by decide)]
 refine Yo G (λm kJ=>?_) (λk2 td he=>?_)
 ·apply ws;intros;apply ir (by simpa using kJ);have:=bad _ kJ (by
   unfold ba.pE
   rw[hn]
   cases hp:b.named t.pending with
   |none=>
    dsimp only
    have:oC t none none false false b.ax.length=23:=by unfold oC;rw[ag (by simpa using uK),ag (by simpa using sf)]
    rw[this];rfl
   |some k2=>
    rw[hp] at kJ
    dsimp only
    rw[Qy k2 hp,ai kJ,ai kJ])
  exact T.dp this
 apply ws;intros;rw[td] at he;obtain⟨kg,afo⟩:=wF hg td;have Qu:k2∈b.ax:=nD td;have h2p:has k2.move.aq 2/\k2.fate<=1:=by
  unfold oz at he;dsimp only at he;by_cases g1: ¬has k2.move.aq 2
  ·rw[ai g1] at he;cases he
  rw[ag g1] at he;by_cases g2:fU t k2.move
  ·rw[ai g2] at he;cases he
  rw[ag g2] at he;by_cases g3:1<k2.fate
  ·rw[ai g3] at he;omega
  exact⟨bp.1 g1,by omega⟩
 obtain⟨Yp,⟨⟨d,hd,hda,hds⟩,⟨c,hc,hca,Nv⟩,kJ⟩⟩:=hw k2 Qu h2p.1 h2p.2;have e0:∀r:Int,r=(if my t k2.move then 26 else if has t.aq 4/\b.mZ k2.move.bI (has k2.move.aq 64)=true then 30 else if has t.aq 4/\b.mZ k2.move.aU (has k2.move.aq 128)=true then 31 else if 96<=b.ax.length then 35 else 0)->
  b.pE t=(if r≠0 then(r,b) else(0,(b.release k2.move (dD t k2.move) (dP t)).mw t (ny t k2.move) 0)):=by
  intro r hr;subst hr;unfold ba.pE;rw[td,hn];dsimp only;rw[Qy k2 td,he,ag (show ¬((0:Int)≠0) by decide)]
 have h48:has t.aq 8↔ ¬has t.aq 4:=(MP uK sf).2.1;apply ef (by simp);apply ws;refine Sa hf h48 (λhb=>?_) (λhb=>?_)
 ·apply ws;intros;have:=bad 26 (by decide) (by rw[e0 26 (by rw[ai hb])];rfl);exact T.dp this
 have hN:dD t k2.move<bO:=by unfold dD;split;exact kg.move.a8;exact ht.a8
 have adQ:has t.aq 4->dD t k2.move<=k2.move.a8:=λh4=>by
  unfold my at hb;by_cases hx:k2.move.a8<dD t k2.move
  ·exact aT (.inl ⟨h4,hx⟩) hb
  ·omega
 have tr:=hg.ay;have oJ:=hg.oJ;have many:=hg.many;have cl:=hg.clock;have fin:∀(r1 r2 r3 r4:Nat)(fate:Int),fate=dP t->(if 96<=b.ax.length then b.pE t=(35,b) else b.pE t=(0,(b.release k2.move (dD t k2.move) (dP t)).mw t (ny t k2.move) 0))->
  T W (Sep.pt r4 (nm (dD t k2.move))::Sep.pt r3 (aN k2.move)::Sep.pt r2 (bM zK)::Sep.pt r1 (aN t)::L) (sK.j1 K (ah p) r3 r4 r1 fate):=by
  intro r1 r2 r3 r4 fate hfa HL;unfold sK.j1
  repeat' first|apply ws|apply wb|refine Wc ?_
  by_cases g3:96<=b.ax.length
  ·rw[ai g3] at HL;rw[ao (by omega)];apply ws;have:=bad 35 (by decide) HL;exact T.dp this
  rw[ag g3] at HL;rw[aw (by omega)];rw[HL,<-hfa] at h;apply ws;have hf3:fate=2\/fate=3\/fate=4:=by rw[hfa];unfold dP;split<;>simp
  have h24:fate=2->has t.aq 4:=λe=>by
   rw[hfa] at e;unfold dP at e;split at e
   ·assumption
   ·cases e
  refine Iu (p:=p) (k:=k2) (d:=d) (c:=c) (by rw[afo];exact td) Yp kg.xk kg.move.a8 hN hd hc kJ hf3 (λe=>by have:=adQ (h24 e);omega) (λe=>by have:=adQ (h24 e);omega) hl λBs x1=>?_;have l1:=x1.len;have i1:=i.next (b.release k2.move (dD t k2.move) fate,Bs);apply ws;intros;have hrk:(b.release k2.move (dD t k2.move) fate).ax.length=b.ax.length:=by unfold ba.release;rw[hd,hc];show(List.map _ _).length=_;rw[bQ];rfl
  have hrs:(b.release k2.move (dD t k2.move) fate).ay=b.ay:=by unfold ba.release;rw[hd,hc];rfl
  have hrc:(b.release k2.move (dD t k2.move) fate).clock=b.clock:=by unfold ba.release;rw[hd,hc];rfl
  have hkg:KG (uq (b.release k2.move (dD t k2.move) fate) t (ny t k2.move) 0):=by
   have kt:=kg.P5;have aiq:=UL;refine⟨ht,⟨ht.id,kg.move.bI,kg.move.aU,hN,ht.pending,ht.cB,kg.move.bJ,kg.move.code,ht.aq,?_,?_⟩,UL,⟨UL.1,kt.2.1,kt.2.2.1,UL.2.2.2⟩,hf,hf,by show(0:Int)<=0/\(0:Int)<=4;decide,ck.cB,?_⟩
   ·show vS (ba.ay _+1);rw[hrs];unfold vS;omega
   ·show vS (ba.clock _);rw[hrc];unfold vS;omega
   ·show 0<=ba.clock _/\ba.clock _<=_;rw[hrc];exact cl
  refine PG (p:=p) (t:=ny t k2.move) (waits:=false) (fate:=0) (HB hn) (by rw[hrk];omega) hkg rfl (by omega) λib x2=>?_;apply ws;have:=h ib ((x1.trans x2).mono (by omega));exact T.dp this
 apply ws;intros;apply ef (by decide);apply ws;rw[afI hf.1 hf.2];apply ga<;>intro g4
 ·apply ws;apply R9 (p:=p) kg.xk hd hc;have c1:(b.mZ k2.move.bI (has k2.move.aq 64)=true)↔(8<=d.aq/\ ¬has k2.move.aq 64):=by unfold ba.mZ;rw[hd];simp
  have c2:(b.mZ k2.move.aU (has k2.move.aq 128)=true)↔(8<=c.aq/\ ¬has k2.move.aq 128):=by unfold ba.mZ;rw[hc];simp
  by_cases g5:8<=d.aq/\ ¬has k2.move.aq 64
  ·rw[ai g5];apply ws;apply ir (by decide);have:=bad 30 (by decide) (by rw[e0 30 (by rw[ag hb,ai ⟨g4,c1.2 g5⟩])];rfl);exact T.dp this
  rw[ag g5];by_cases g6:8<=c.aq/\ ¬has k2.move.aq 128
  ·rw[ai g6];apply ws;apply ir (by decide);have:=bad 31 (by decide) (by rw[e0 31 (by rw[ag hb,ag (λhh=>g5 (c1.1 hh.2)),ai ⟨g4,c2.2 g6⟩])];rfl);exact T.dp this
  rw[ag g6];apply ws;apply ef (by decide);refine fin _ _ _ _ _ (by unfold dP;rw[ai g4]) ?_;by_cases g7:96<=b.ax.length
  ·rw[ai g7,e0 35 (by rw[ag hb,ag (λhh=>g5 (c1.1 hh.2)),ag (λhh=>g6 (c2.1 hh.2)),ai g7])];rfl
  ·rw[ag g7,e0 0 (by rw[ag hb,ag (λhh=>g5 (c1.1 hh.2)),ag (λhh=>g6 (c2.1 hh.2)),ag g7])];rfl
 ·refine fin _ _ _ _ _ (by unfold dP;rw[ag g4]) ?_;by_cases g7:96<=b.ax.length
  ·rw[ai g7,e0 35 (by rw[ag hb,ag (λhh=>g4 hh.1),ag (λhh=>g4 hh.1),ai g7])];rfl
  ·rw[ag g7,e0 0 (by rw[ag hb,ag (λhh=>g4 hh.1),ag (λhh=>g4 hh.1),ag g7])];rfl
def adR(G:oH W)(ht:yF t)(UL:kH t)(hw:∀k∈b.ax,has k.move.aq 2->k.fate<=1->k.fate=1/\M' b k)(hl:hs.length<800000)[i:Lc (cL p) L (b,hs) f]
 (h:∀fF,Ext (fS b) hs (fS (b.rI t).2) fF 8->T W (f ((b.rI t).2,fF)) (K (.i (b.rI t).1))):T W L (oI (ah p) (aN t) K):=by
 unfold oI
 repeat' first|apply ws;intros|apply wb|refine Lh G ht ?_
 unfold oI.j1;apply dz<;>intro g1
 ·have g1:nL t≠0:=by simpa using g1
  have e:b.rI t=b.move t:=by unfold ba.rI;rw[ag (λhh=>g1 hh.1)]
  rw[e] at h;apply ws;refine Z0 G ht UL hl λfF hx=>?_;apply ws;have:=h fF (hx.mono (by omega));exact T.dp this
 have g1:nL t=0:=by simpa using g1
 have ck:=Dl g1
 repeat' first|apply ws|apply wb|refine KQ (show 0<=t.aq/\t.aq<256 by have:=ck.aq;omega) ?_
 by_cases g2:jZ t.aq
 ·have e:b.rI t=b.pE t:=by unfold ba.rI;rw[ai ⟨g1,g2⟩]
  rw[e] at h;rw[aw g2];apply ws;refine abC G ht UL g1 g2 hw hl λfF hx=>?_;apply ws;have:=h fF hx;exact T.dp this
 ·have e:b.rI t=b.move t:=by unfold ba.rI;rw[ag (λhh=>g2 hh.2)]
  rw[e] at h;rw[ao g2];apply ws;refine Z0 G ht UL hl λfF hx=>?_;apply ws;have:=h fF (hx.mono (by omega));exact T.dp this
end
section
variable {W:World} {L R:LH} {K:VK} {X:WK} {p:Nat} {b:ba} {hs:List C} {f:ba×List C->LH}
def zI:Item:=⟨0,0,0⟩
instance{x1 x2 x3 x4:Value}:Wr [x1,x2,x3,x4] 0 [.i 0,.i 0,.u 0,.u 0] (gR zI):=⟨rfl,aI _,qQ zI⟩
instance{x:Item}:Sub (gR x) 2 2 (nm x.id):=⟨rfl,λj v h=>by
 match j with
 |0=>exact h
 |1=>exact h
 |j+2=>simp[nm] at h⟩
def Ub{r o:Nat}{cs:LV}{bb:OA}{c:Nat}{h:List Item}(hv:cs[o]?=some (.l bb h.length c))(hl:h.length<10000)
 (hx:∀x,h[0]?=some x->T W (Sep.pt r cs::own bb h.length c 4 (h.flatMap gR)::R) (K (.tuple ⟨[.agg ⟨gR x⟩,.b true]⟩)))
 (h0:h=[]->T W (Sep.pt r cs::own bb h.length c 4 (h.flatMap gR)::R) (K (.tuple ⟨[.agg ⟨gR zI⟩,.b false]⟩))):
 T W (Sep.pt r cs::own bb h.length c 4 (h.flatMap gR)::R) (nY (some ⟨r,o,none⟩) K):=by
 unfold nY uH;refine uF λr1=>?_;apply zg;apply Eh;apply nU hv;apply uE;apply kd;apply dz<;>intro g
 ·have g:h=[]:=by
   have:((h.length:Nat):Int)=0:=by simpa using g
   exact List.length_eq_zero_iff.1 (by omega)
  apply ws;have:=h0 g;exact T.dp this
 ·have g:0<h.length:=by
   have: ¬((h.length:Nat):Int)=0:=by simpa using g
   omega
  apply Eh;apply nU hv;apply uE;have gx:=aj g;refine dS ⟨by omega,by omega⟩ λrb hb=>?_;subst hb;apply gI (o:=0) iX gx;apply ws;have:=hx _ gx;exact T.dp this
def So{q:Core}{f:Core->LH}[i:Lc (gY p) L q f](hl:q.ends.length<10000)
 (h1:∀x,x∈q.ends->(∀y∈q.ends,¬bf y x)->T W L (K (.tuple ⟨[.agg ⟨gR x⟩,.b true]⟩)))(h0:q.ends=[]->T W L (K (.tuple ⟨[.agg ⟨gR zI⟩,.b false]⟩))):T W L (nY (some ⟨p,6,none⟩) K):=by
 have hL:f q=L:=i.same;rw[<-hL] at h0 h1;refine q6 (p:=p) λb1 c1 b2 c2 b3 c3 hp R g1 g2 hc=>?_;apply T.N1;refine Ub rfl (by rw[g2.length_eq];exact hl) (λx hx=>?_) (λhn=>?_)
 ·apply T.FQ;exact hc [] q b1 c1 b2 c2 b3 c3 hp _ g1 g2 (h1 x (g2.mem_iff.1 (cD hx)) λy hy=>g1.first hx y (g2.mem_iff.2 hy))
 ·apply T.FQ;exact hc [] q b1 c1 b2 c2 b3 c3 hp _ g1 g2 (h0 (by subst hn;exact(List.nil_perm.1 g2)))
def tick(b:ba)(now:Int):ba:={b with clock:=if b.clock<now/\now<=1099511627776 then now else b.clock}
def Xp[i:Lc (cL p) L (b,hs) f]{now:Int}(hl:hs.length<900000)
 (h:∀fF,Ext (fS b) hs (fS (Go.Up.tick b now)) fF 1->T W (f (Go.Up.tick b now,fF)) (K (.tuple ⟨[]⟩))):T W L (eK (ah p) now K):=by
 refine Nh (p:=p) λla lk ti tn vs bx R hg hc qh=>?_;have Qo:vs.reverse.length<900000:=by rw[jx,hc.len];omega
 have hck:=hg.clock;have same: ¬(b.clock<now/\now<=1099511627776)->Go.Up.tick b now=b:=λhn=>by unfold Go.Up.tick;rw[ag hn]
 unfold eK;apply ws;intros;rename_i r1;apply ga<;>intro g
 ·have g:now<=b.clock:=g;have e:=same (by omega);rw[e] at h;have fin:=qh [] b hs vs bx _ hg hc (h hs (Ext.refl _ _ _));unfold eK.j1;apply ws;exact T.dp fin
 have g: ¬now<=b.clock:=g;unfold eK.j1;apply ga<;>intro g2
 ·have g2:now>1099511627776:=g2;have e:=same (by omega);rw[e] at h;have fin:=qh [] b hs vs bx _ hg hc (h hs (Ext.refl _ _ _));exact T.dp fin
 have g2: ¬now>1099511627776:=g2;have e:Go.Up.tick b now={b with clock:=now}:=by unfold Go.Up.tick;rw[ai ⟨by omega,by omega⟩]
 rw[e] at h;apply ws;intros;rename_i r2;apply NN (p:=p);apply ws;refine wY (p:=p) (by show vs.reverse.length<_;omega) rfl rfl ?_;apply ws;refine eX (eX ?_);have dY:eB {b with clock:=now}:={hg with clock:=by show 0<=now/\now<=_;omega};have fin:=λo0 c1=>qh [] {b with clock:=now} _ (ZE r2 r1::vs) o0 _ dY c1 (h _ ⟨[fS b],rfl,rfl,by simp⟩);simp only[gK,yL] at fin;refine fin _ ⟨?_,hc.mono λx hx=>by simp[hx]⟩;exact Ee.time (c:=fS {b with clock:=now}) (by repeat (first|exact dR.head _|apply dR.tail)) (by repeat (first|exact dR.head _|apply dR.tail))
def T2[i:Lc (cL p) L (b,hs) f]
 (h1:∀k,k∈b.ax->nH b.clock k->T W L (K (.tuple ⟨[.agg ⟨bM k⟩,.b true]⟩)))
 (h0:(∀k∈b.ax,¬nH b.clock k)->T W L (K (.tuple ⟨[.agg ⟨bM zK⟩,.b false]⟩))):T W L (fw (ah p) K):=by
 have hL:f (b,hs)=L:=i.same;refine Nh (p:=p) λla lk ti tn vs bx R hg hc qh=>?_;have many:=hg.many;unfold fw;apply ws;intros;refine So (p:=p) (by have:=Co b;show(b.ax.filterMap gn).length<_;omega) (λx hx Ax=>?_) (λhn=>?_)
 ·obtain⟨k,hk,hkd⟩:=List.mem_filterMap.1 hx;obtain⟨e1,e2,e3,e4,e5⟩:=sg hkd;have hn:b.named x.id=some k:=by
   obtain⟨n,hn,rfl⟩:=List.getElem_of_mem hk;have:=Ad (key:=λx:cr=>x.move.id) hg.names hn;rw[e2];exact(xq (key:=λx:cr=>x.move.id) this).2.2
  apply ws;intros;unfold fw.j1;apply ga<;>intro g
  ·have g:x.due<=b.clock:=g;have fin:=qh [] b hs vs bx _ hg hc (by rw[hL];exact h1 k hk ⟨e4,e5,by omega⟩);apply ws;apply KJ (b:=b) (q:=gK la lk ti tn vs (fS b)) many;rw[hn];simp only[dL,dI];apply ws;exact T.dp fin
  ·have g: ¬x.due<=b.clock:=g;have fin:=qh [] b hs vs bx _ hg hc (by
    rw[hL]
    refine h0 λk' Bt ho=>?_
    have hd':gn k'=some ⟨k'.move.iE+k'.move.cB,k'.move.ay,k'.move.id⟩:=by unfold gn;rw[ai ⟨ho.1,ho.2.1⟩]
    have:=Ax _ (List.mem_filterMap.2 ⟨k',Bt,hd'⟩)
    have h3:=ho.2.2
    unfold bf at this
    dsimp only at this
    omega)
   apply ws;exact T.dp fin
 ·have fin:=qh [] b hs vs bx _ hg hc (by
   rw[hL]
   refine h0 λk' Bt ho=>?_
   have hd':gn k'=some ⟨k'.move.iE+k'.move.cB,k'.move.ay,k'.move.id⟩:=by unfold gn;rw[ai ⟨ho.1,ho.2.1⟩]
   have:_∈b.ax.filterMap gn:=List.mem_filterMap.2 ⟨k',Bt,hd'⟩
   rw[show b.ax.filterMap gn=[] from hn] at this
   cases this)
  apply ws;intros;unfold fw.j1;apply ws;exact T.dp fin
end
def Ji{b:ba}{m:aA}(hs:pK b m)(hg:Md.bW m){id:Nat}(h:id∈m.cW.map (·.id)):∃a,a∈m.cW/\a.id=id/\b.find id=some (Md.full m.ax a):=by
 obtain⟨a,ha,rfl⟩:=cV.1 h;refine⟨a,ha,rfl,?_⟩;rw[hs.find];unfold aA.find;rw[rS hg.ids ha];rfl
def Hf{b:ba}{m:aA}(hs:pK b m)(hg:Md.bW m){k:cr}(hk:k∈m.ax)(h1:k.fate=1):M' b k:=by
 obtain⟨kJ,hd,hc⟩:=hg.zj k hk;obtain⟨d,Kc,HO,fd⟩:=Ji hs hg hd;obtain⟨c,S7,Hq,fc⟩:=Ji hs hg hc;have zd:=hg.zero d Kc;have zc:=hg.zero c S7;refine⟨⟨_,fd,?_,?_⟩,⟨_,fc,?_,?_⟩,kJ⟩
 ·have:=V' (Bv d.id) m.ax k hk;have e:Bv d.id k=k.move.a8:=ai ⟨h1,HO.symm⟩;show k.move.a8<=d.dp+S (Bv d.id) m.ax;omega
 ·show d.dp+S (Bv d.id) m.ax+(d.dq+S (Dd d.id) m.ax)<bO;have:=hg.zJ d Kc;omega
 ·have:=V' (Bw c.id) m.ax k hk;have e:Bw c.id k=k.move.a8:=ai ⟨h1,Hq.symm⟩;show k.move.a8<=c.cp+S (Bw c.id) m.ax;omega
 ·show c.cp+S (Bw c.id) m.ax+(c.cq+S (De c.id) m.ax)<bO;have:=hg.wz c S7;omega
def Zl{b:ba}{m:aA}(hs:pK b m)(hg:Md.bW m):∀k∈b.ax,has k.move.aq 2->k.fate<=1->k.fate=1/\M' b k:=λk hk h2 hf=>by
 rw[hs.ax] at hk;have:=hg.vH k hk;have h1:k.fate=1:=by have:=this.2.2.1 h2;omega
 exact⟨h1,Hf hs hg hk h1⟩
def GN(c:Int)(k:cr):cr:=if nH c k then{k with fate:=4} else k
def DK(c:Int)(l:List cr):Nat:=(l.filter λk=>nH c k).length
def II{c:Int}:∀{l:List cr} {i:Nat}(hi:i<l.length),nH c l[i]->DK c (l.set i {l[i] with fate:=4})+1=DK c l
 |x::l,0,hi,h=>by
  have h2: ¬nH c {x with fate:=4}:=λhh=>aT hh.1 (show ¬(4:Int)=1 by decide);have h:nH c x:=h;show((({x with fate:=4}:cr)::l).filter _).length+1=((x::l).filter _).length;rw[lX (by simpa using h2),lW (by simpa using h),bE]
 |x::l,i+1,hi,h=>by
  have:=II (c:=c) (l:=l) (i:=i) (by simpa using hi) h;show((x::l.set i _).filter _).length+1=((x::l).filter _).length;by_cases hx:nH c x
  ·rw[lW (by simpa using hx),lW (by simpa using hx),bE,bE];exact congrArg (·+1) this
  ·rw[lX (by simpa using hx),lX (by simpa using hx)];exact this
structure Zp(m m':aA):Prop where
 cW:m'.cW=m.cW
 ay:m'.ay=m.ay
 clock:m'.clock=m.clock
 ax:m'.ax.map (GN m.clock)=m.ax.map (GN m.clock)
def Zp.refl(m:aA):Zp m m:=⟨rfl,rfl,rfl,rfl⟩
def IJ{b:ba}{m0 m:aA}(hs:pK b m)(hg:Md.bW m)(hx:Zp m0 m){k:cr}(hk:k∈b.ax)(ho:nH b.clock k):
 b.named k.move.id=some k/\M' b k/\∃m',pK (b.release k.move 0 4) m'/\Md.bW m'/\Zp m0 m'/\DK m0.clock m'.ax+1=DK m0.clock m.ax:=by
 rw[hs.ax] at hk;rw[hs.clock] at ho;obtain⟨i,hi,rfl⟩:=List.getElem_of_mem hk;have Qs:b.named m.ax[i].move.id=some m.ax[i]:=by
  have:=Ad (key:=λx:cr=>x.move.id) hg.names hi;rw[hs.J4];exact(xq (key:=λx:cr=>x.move.id) this).2.2
 refine⟨Qs,Hf hs hg hk ho.1,m.fa i 4,hs.release hg hi ho.1 (.inr rfl) 0,hg.fa hi ho.1 (.inr (.inr rfl)),⟨hx.cW,hx.ay,hx.clock,?_⟩,?_⟩
 ·rw[<-hx.ax];rw[hx.clock] at ho;exact(MB hi m0.clock).resolve_right (λhh=>hh ho)
 ·rw[hx.clock] at ho;rw[rO hi];exact II hi ho
def IK{b:ba}{m0 m:aA}(hs:pK b m)(hx:Zp m0 m)(h:∀k∈b.ax,¬nH b.clock k):m={m0 with ax:=m0.ax.map (GN m0.clock)}:=by
 have h2:m.ax.map (GN m0.clock)=m.ax:=MC (m:=m) (clock:=m0.clock) λk hk=>by
  have:=h k (by rw[hs.ax];exact hk);rwa[hs.clock,hx.clock] at this
 rw[<-hx.ax,h2];obtain⟨x1,x2,x3,x4⟩:=hx;cases m;cases m0
 simp only at x1 x2 x3;subst x1;subst x2;subst x3;rfl
def vn(m:aA)(now:Int):aA:={m with clock:=if m.clock<now/\now<=1099511627776 then now else m.clock}
def JB(m:aA)(now:Int):m.time now={vn m now with ax:=(vn m now).ax.map (GN (vn m now).clock)}:=rfl
def SD{b:ba}{m:aA}(hs:pK b m)(now:Int):pK (Go.Up.tick b now) (vn m now):=⟨hs.aC,hs.ax,by unfold Go.Up.tick vn;simp only[hs.clock],hs.ay⟩
def Ec{m:aA}(hg:Md.bW m)(now:Int):Md.bW (vn m now):=⟨hg.zero,hg.ids,hg.oJ,hg.names,hg.vH,hg.zj,hg.some_,hg.zJ,hg.wz,hg.wA⟩
def RQ(n:Int):dj .i64 .and n 1=n%2:=by
 unfold dj;have e1:(BitVec.ofInt aa.bits n&&&BitVec.ofInt aa.bits 1).toNat=(BitVec.ofInt 64 n).toNat%2:=by
  rw[BitVec.toNat_and];show(BitVec.ofInt 64 n).toNat&&&1=_;exact Nat.and_one_is_mod _
 dsimp only;rw[e1];have e2:(((BitVec.ofInt 64 n).toNat%2:Nat):Int)=n%2:=by
  rw[BitVec.toNat_ofInt];omega
 rw[e2];exact aX (by omega)
def RP{n:Int}(h0:0<=n)(h1:n<=7):dj .i64 .andNot n 1=n/2* 2:=by
 have:n=0\/n=1\/n=2\/n=3\/n=4\/n=5\/n=6\/n=7:=by omega
 rcases this with rfl|rfl|rfl|rfl|rfl|rfl|rfl|rfl<;>rfl
section
variable {α:Type} {W:World} {R L:LH} {K:VK} {X:WK} {g:α->LV} {e:Nat} {s:OA} {l:List α}
def mE(W:World)(R:LH)(g:α->LV)(e:Nat)(s:OA)(l:List α):Prop:=
 ∀w,St W w R->∀i x,l[i]?=some x->∃a,s=some a/\yU w (a.add (i* e)) (g x)
def iq{i:Int}{n:Nat}{K:Addr->WK}[hh:Has R L](hr:mE W R g e s l)(hi:0<=i/\i<l.length)(hn:n=l.length)(h:∀a,s=some a->T W L (K (a.add (i.toNat* e)))):T W L (iW s n i e K):=λw hs=>by
 obtain⟨a,ha,-⟩:=hr w (hh.sub hs) i.toNat _ (aj (by omega));exact⟨a,ha,⟨hi.1,by omega⟩,h a ha w hs⟩
def kY{i:Nat}{x:α}{a:Addr}{K:LV->WK}[hh:Has R L](hr:mE W R g e s l)(hs:s=some a)(hx:l[i]?=some x)(hg:(g x).length=e)(h:T W L (K (g x))):T W L (aJ (a.add (i* e)) e K):=λw hw=>by
 obtain⟨a',ha,hh⟩:=hr w (hh.sub hw) i x hx;rw[hs] at ha;cases ha
 exact⟨g x,hg,hh,h w hw⟩
def mE.drop{c i:Nat}(hr:mE W R g e s l)(hi:i<=l.length)(hc:l.length<=c):mE W R g e (zi s c i e) (l.drop i):=λw hw j x hx=>by
 rw[ta] at hx;obtain⟨a,ha,hh⟩:=hr w hw (i+j) x hx;have cn:=(ar.1 hx).1;unfold zi;rw[ag (by omega),ha];refine⟨a.add (i* e),rfl,?_⟩;rw[add_add,<-mG];exact hh
def mE.take{i:Nat}(hr:mE W R g e s l):mE W R g e s (l.take i):=λw hw j x hx=>by
 apply hr w hw j x;rw[s8] at hx;split at hx
 ·exact hx
 ·cases hx
def EC{b:OA}{n c i j e:Nat}{K:OA->Nat->Nat->WK}(hi:i<=j)(hj:j<=c)(h:T W L (K (zi b c i e) (j-i) (c-i))):T W L (tf b n c e (some (i:Int)) (some (j:Int)) K):=by
 unfold tf;refine dU ⟨by omega,by omega⟩ ?_;dsimp only;refine dU ⟨by omega,by omega⟩ ?_;rw[ak,ak];exact h
end
def I1(i:Int):LV:=[.i i]
def KN(i:Int):(I1 i).length=1:=rfl
section
variable {W:World} {L:LH} {K:VK} {X:WK} {f:HP->LH}
def Kj{r N C o n i:Nat}{c:Nat}{v:Int}{l:List Int}[j:wX (some ⟨r,0,none⟩) N C L 1 (l.flatMap I1) f](ho:o+n<=l.length)(hi:i<n)(hn:n<1000000)
 (h:T W (f (own (some ⟨r,0,none⟩) N C 1 ((l.take o++ln n (some (i,v))++l.drop (o+n)).flatMap I1))) (K (.tuple ⟨[]⟩))):T W L (jJ (some ⟨r,o,none⟩) n c i v K):=by
 unfold jJ;intro w hs;obtain⟨k,hk,e1⟩:=j.at_;have Ax:min o l.length=o:=rE (by omega)
 let st:Nat->List Int:=λm=>l.take o++bw m 1++l.drop (o+m)
 have tr:∀m,m<=n->(st m).length=l.length:=λm hm=>by simp only[st,av,aD,Ax,kV,aS];omega
 refine⟨λvs w=>∃m:Nat,m<=n/\vs=[.i (n:Int),.i (m:Int)]/\St W w (f (own (some ⟨r,0,none⟩) N C 1 ((st m).flatMap I1))),mq 1 n,⟨0,aF _,rfl,?_⟩,?_⟩
 ·have:st 0=l:=by simp[st]
  rw[this,e1,nW hk];exact hs
 rintro n3 n4 w2 ⟨m,hm,e,ib⟩;cases e
 rw[e1] at ib;have td:(L.set k (own (some ⟨r,0,none⟩) N C 1 ((st m).flatMap I1)))[k]?=some (own (some ⟨r,0,none⟩) N C 1 ((st m).flatMap I1)):=kn hk;have one:∀v∈I1 1,v.oneCell'=true:=λv hv=>by simp[I1] at hv;subst hv;rfl
 by_cases cn:m<n
 ·rw[aw (by omega)];rw[lC];refine⟨_,rfl,⟨by omega,by omega⟩,?_⟩;rw[ia,ak,mF];refine CO ib td (by rw[Cm KN,tr m hm];omega) rfl λw3 vU=>?_;have e5:=nI m;rw[e5];refine⟨⟨m+1,cn,rfl,?_⟩,dn (by omega)⟩;rw[e1];rw[jH] at vU;have e6:((st m).flatMap I1).set (o+m) (Value.int aa 1)=(st (m+1)).flatMap I1:=by
   have:=Dc (g:=I1) (l:=st m) (o:=o+m) (y:=1) (j:=0) (v:=.i 1) KN (aj (by rw[tr m hm];omega)) rfl (by decide);have e7:(st m).set (o+m) 1=st (m+1):=by
    have hd:l.drop (o+m)=l[o+m]'(by omega)::l.drop (o+m+1):=gh (by omega);have hAB:(l.take o++bw m (1:Int)).length=o+m:=by rw[av,aD,kV,Ax]
    simp only[st];rw[hd,List.set_append_right _ _ (by omega),hAB,kR,List.set_cons_zero,List.replicate_succ'];simp[Nat.add_assoc]
   rw[<-e7,<-this,mF,gM]
  rw[e6] at vU;exact vU
 ·have hmn:m=n:=by omega
  subst hmn;rw[ao (by omega),eu];refine⟨_,rfl,⟨by omega,by omega⟩,?_⟩;rw[ia,ak,mF];refine CO ib td (by rw[Cm KN,tr m hm];omega) rfl λw3 vU=>?_;apply h w3;rw[e1];rw[jH] at vU;have e6:((st m).flatMap I1).set (o+i) (Value.int aa v)=(l.take o++ln m (some (i,v))++l.drop (o+m)).flatMap I1:=by
   have:=Dc (g:=I1) (l:=st m) (o:=o+i) (y:=v) (j:=0) (v:=.i v) KN (aj (by rw[tr m hm];omega)) rfl (by decide);have e7:(st m).set (o+i) v=l.take o++ln m (some (i,v))++l.drop (o+m):=by
    simp only[st,ln];rw[aH,List.set_append_right _ _ (by rw[aD,Ax];omega),List.set_append_left _ _ (by rw[aD,Ax,kV];omega),<-aH]
    congr 3
    rw[aD,Ax];omega
   rw[<-e7,<-this,mF,gM]
  rw[e6] at vU;exact vU
end
section
variable {α σ:Type}
def yB{linked:α->Bool}:∀{l:List α} {i:Nat} {x:α},(∀j y,j<i->l[j]?=some y->linked y=true)->l[i]?=some x->linked x=false->cy linked l=(i+1,true)
 |[],i,x,_,hx,_=>by simp at hx
 |y::l,0,x,_,hx,hn=>by simp at hx;subst hx;unfold cy;rw[ag (by simp[hn])]
 |y::l,i+1,x,h,hx,hn=>by
  unfold cy;rw[ai (h 0 y (by omega) rfl),yB (l:=l) (i:=i) (λj z hj hz=>h (j+1) z (by omega) (by simpa using hz)) (by simpa using hx) hn]
def wE{linked:α->Bool}:∀{l:List α},(∀x∈l,linked x=true)->cy linked l=(l.length,false)
 |[],_=>rfl
 |y::l,h=>by unfold cy;rw[ai (h y (by simp)),wE λx hx=>h x (by simp[hx])];rfl
def vL{linked:α->Bool}:∀(l:List α),(cy linked l).1<=l.length
 |[]=>aI _
 |y::l=>by unfold cy;split<;>simp;exact vL l
def D7{linked:α->Bool}(x:α)(l:List α):0<(cy linked (x::l)).1:=by unfold cy;split<;>simp
def yA{linked:α->Bool}:∀{l:List α},(cy linked l).2=false->(cy linked l).1=l.length
 |[],_=>rfl
 |y::l,h=>by
  unfold cy at h⊢;split at h
  ·rename_i hy;rw[ai hy];show _+1=_;rw[yA h];rfl
  ·cases h
def tF{f:σ->α->Int×σ}:∀(l m:List α)(s s':σ)(i:Nat),iw f s l i=(none,s')->iw f s (l++m) i=iw f s' m (i+l.length)
 |[],m,s,s',i,h=>by cases h;rfl
 |x::l,m,s,s',i,h=>by
  unfold iw at h;split at h
  ·cases h
  ·rename_i h0;rw[lY];show iw f s (x::(l++m)) i=_;rw[iw,ag h0,tF l m _ _ _ h,bE,Nat.add_right_comm,Nat.add_assoc]
def lg(n:Nat)(e:Option (Nat×Int)):(ln n e).length=n:=by cases e<;>simp[ln]
end
section
variable {W:World} {L R:LH} {K:VK} {X:WK} {p:Nat} {b:ba} {hs:List C} {f:ba×List C->LH}
def Xs[i:Lc (cL p) L (b,hs) f]{a:bP}(oJ:32<=b.aC.length)(h:T W L (K (.i 6))):T W L (m8 (ah p) (aO a) K):=by
 have hL:f (b,hs)=L:=i.same;refine Nh (p:=p) λla lk ti tn vs bx R hg hc qh=>?_;have fin:=qh [] b hs vs bx _ hg hc (by rw[hL];exact h);unfold m8;apply ws;intros;apply Pb (l:=la);apply ws;refine ir (by show decide (((b.aC.length:Nat):Int)>=32)=true;simp;omega) ?_;exact T.dp fin
def PH[i:Lc (cL p) L (b,hs) f]{b0:ba}{jS:List C}{n:Nat}(hg:eB b0)(hx:Ext (fS b0) jS (fS b) hs n)(hl:hs.length<1000000)(h:T W (f (b0,jS)) (K (.tuple ⟨[]⟩))):T W L (fP (ah p) (jS.length:Int) K):=λw hw=>by
 obtain⟨k,hk,e1⟩:=i.at_;have h1:=hw.focus hk;obtain⟨-,h2⟩:=h1.and;refine(show T W (cP p (fS b,hs)::L.eraseIdx k) _ from ?_) w h2;unfold fP;apply ws;apply acu (p:=p) hl;rw[hx.back];apply ws;intro w2 hw2;apply h w2;rw[e1];exact St.ss (A:=cL p (b,hs)) (St.and_intro hg hw2) hk
def OP{a:bP}(h:uM a=0):0<=a.aq/\a.aq<=7/\a.dp=0/\a.dq=0/\a.cp=0/\a.cq=0/\a.ay=0/\(1<=a.bJ/\a.bJ<=4294967295)/\1<=a.code/\a.code<=65535:=by
 unfold uM at h
 repeat' (first|(split at h;first|(exact aT h (by decide))|skip)|skip)
 omega
def Y6(G:oH W){a:bP}(ha:yJ a)[i:Lc (cL p) L (b,hs) f](hl:hs.length<900000)
 (h:∀fF,Ext (fS b) hs (fS (b.make a).2) fF 8->T W (f ((b.make a).2,fF)) (K (.i (b.make a).1))):T W L (mz (ah p) (aO a) K):=by
 have hL:f (b,hs)=L:=i.same;refine qZ (p:=p) λhg=>?_;unfold mz
 repeat' first|apply ws;intros|apply wb|refine V2 G ha ?_
 have stay:∀r:Int,b.make a=(r,b)->T W L (K (.int .i64 r)):=λr e=>by
  rw[e] at h;have:=h hs (Ext.refl _ _ _);rw[hL] at this;exact this
 apply dz<;>intro g1
 ·have g1:uM a≠0:=by simpa using g1
  have:=stay (uM a) (by unfold ba.make;rw[ai g1]);exact T.dp this
 have g1:uM a=0:=by simpa using g1
 have ck:=OP g1
 repeat' first|apply ws;intros|apply wb|refine xJ (p:=p) ?_
 cases hf:b.find a.id with
 |some x=>
  simp only[dL,dI];obtain⟨gx,hxi⟩:=xx hg hf
  repeat' first|apply ws|apply wb|refine V3 ⟨ck.1,by omega⟩ ⟨gx.aq.1,by have:=gx.aq.2;omega⟩ ?_
  have:=stay (uN a x) (by unfold ba.make;rw[ag (by omega),hf]);exact T.dp this
 |none=>
  simp only[ff,gQ];apply ws;rw[RP ck.1 ck.2.1];by_cases oJ:b.aC.length<32
  ·have hga:AG {({a with aq:=a.aq/2* 2}:bP) with ay:=b.ay+1}:=by
    have tr:=hg.ay;have many:=hg.many;refine⟨⟨ha.id,ha.dp,ha.dq,ha.cp,ha.cq,?_,?_,?_,?_⟩,⟨⟨by show 0<=a.bJ;omega,by show a.bJ<=_;omega⟩,⟨by show 0<=a.code;omega,by show a.code<=_;omega⟩,by show 0<=a.aq/2* 2;omega,by show a.aq/2* 2<=_;omega⟩,⟨by show 0<=a.aq/2* 2;omega,by show a.aq/2* 2<_;omega⟩,by show 0<=b.ay+1;omega,by show b.ay+1<_;omega⟩
    ·show vS a.bJ;unfold vS;omega
    ·show vS a.code;unfold vS;omega
    ·show vS (a.aq/2* 2);unfold vS;omega
    ·show vS (b.ay+1);unfold vS;omega
   refine Xq (p:=p) (a:={a with aq:=a.aq/2* 2}) hf oJ hga hl λfF hx=>?_;apply ws;have e:b.make a=(0,b.more {a with aq:=a.aq/2* 2}):=by
    unfold ba.make ba.more;rw[ag (by omega),hf];dsimp only;rw[ag (by omega)]
   rw[e] at h;have:=h fF (hx.mono (by omega));exact T.dp this
  ·apply Xs (p:=p) (a:={a with aq:=a.aq/2* 2}) (by omega);apply ws;have:=stay 35 (by unfold ba.make;rw[ag (by omega),hf];dsimp only;rw[ai (by omega)]);exact T.dp this
end
end Go.Up
