/- Part of the proof: see the last text. -/
import Derived.Test.YtnffemlgkghcfaaGreatDoorPB
set_option linter.all false
set_option maxRecDepth 100000
set_option synthInstance.maxSize 100000
open Bool renaming eq_iff_iff→aed,false_eq_true→aef,false_ne_true→aej
open Decidable renaming not_not→ad4
open Go.IntKind renaming i64→adN
open Int renaming toNat_natCast→adR,le_refl→afq
open List renaming map_cons→aer,map_nil→afp,getElem?_eq_getElem→adQ,getElem?_eq_some_iff→adS,replicate→ad6,append_nil→aeb,getElem?_set→aem,map_append→aen,getElem?_map→aeD,flatMap_cons→aeE,flatMap_append→aeN,getElem?_eq_none→aeR,ext_getElem?→afa,getElem?_range→afi,range→afl,map_map→afr,length_cons→ad8,mem_of_getElem?→aei,mem_or_eq_of_mem_set→aeG,length_set→aeV,length_replicate→aeX,set_cons_succ→ae5,getElem?_of_mem→ae',take_length→ad3,Perm→aeh,take_succ_eq_append_getElem→aeK,perm_middle→ae2,length_append→adT,length_take→adV,append_assoc→adZ,length_drop→ad2,take_add_one→ad',take_append_drop→aek,length_reverse→aeM,pairwise_iff_getElem→aeW,getElem?_drop→ae6,perm_append_comm→adY,getElem?_append_left→aec,drop_eq_getElem_cons→aev,drop_of_length_le→aex,getElem?_take→afg,length_singleton→afd,Sublist→ad5,mem_map→aeA,mem_cons→ae9,nil_append→aet,set_set→ae4,take_zero→aff,reverse_cons→afk,mem_append→aeu,mem_of_find?_eq_some→aeO,map_congr_left→ae7,find?_eq_none→afb,getElem_mem→aee,length_map→aeg,getElem?_cons_succ→ad7,cons_append→ae3,Mem→aeF,getElem?_append_right→aeo,filter_cons_of_pos→aeP,filter_cons_of_neg→aeQ
open Nat renaming zero_add→adU,zero_le→ad0,mod_eq_of_lt→aez,mul_le_mul_right→aeC,add_mul→afe,mul_comm→afo,pow_le_pow_right→aeH,le_refl→adW,add_zero→aeL,sub_self→ae8,mul_one→afm
open Option renaming some→aea,map_some→aeB,isSome_some→aep,getD_some→aes,isSome_none→aew,getD_none→aeI,map→aft
namespace Go.Up
open Go.Sep Go.Den Go.RowKit Go.Prog Go.Md
def Eu:∀(xs ys:List Int),xs.length=ys.length->fo (xs.map (.int .i64)) (ys.map (.int .i64))=decide (xs=ys)
 |[],[],_=>rfl
 |[],_::_,h=>by simp at h
 |_::_,[],h=>by simp at h
 |x::xs,y::ys,h=>by
  simp only[aer,fo,vI];rw[Eu xs ys (by simpa using h),aed];simp
def kh{a b:Nat}{xs ys:LV}:fo (nm a++xs) (nm b++ys)=(decide (a=b)&&fo xs ys):=by rw[pf (show(nm a).length=(nm b).length from rfl),SZ]
def Et(t u:Move):fo (ai t) (ai u)=decide (t=u):=by
 have e:=Eu [t.timeout,t.aF,t.code,t.flags,t.ae,t.born] [u.timeout,u.aF,u.code,u.flags,u.ae,u.born] rfl;simp only[aer,afp] at e;unfold ai;rw[kh,kh,kh,kh,kh,e];rw[aed];obtain⟨a,b,c,d,e,f,g,h,i,j,k⟩:=t;obtain⟨a',b',c',d',e',f',g',h',i',j',k'⟩:=u;simp[and_assoc]
def Ri(t u:aP):fo (ao t) (ao u)=decide (t=u):=by
 have e:=Eu [t.aF,t.code,t.flags,t.ae] [u.aF,u.code,u.flags,u.ae] rfl;simp only[aer,afp] at e;unfold ao;rw[kh,kh,kh,kh,kh,e];rw[aed];obtain⟨a,b,c,d,e,f,g,h,i⟩:=t;obtain⟨a',b',c',d',e',f',g',h',i'⟩:=u;simp[and_assoc]
def Rh(t u:Kept):fo (aI t) (aI u)=decide (t=u):=by
 unfold aI;rw[pf (show(ai t.asked).length=(ai u.asked).length from rfl),pf (show(ai t.move).length=(ai u.move).length from rfl),Et,Et,aed];obtain⟨a,b,c⟩:=t;obtain⟨a',b',c'⟩:=u;simp[fo,vI]
section
variable {W:World} {L:LH} {K:VK} {a b:aP} {t u:Move} {k j:Kept}
def MO{K:Bool->WK}(h:T W L (K (decide (t=u)))):T W L (ny [.u 0,.u 0,.u 0,.u 0,.u 0,.u 0,.u 0,.u 0,.u 0,.u 0,.i 0,.i 0,.i 0,.i 0,.i 0,.i 0] (ai t) (ai u) K):=I7 rfl rfl (by rw[Et];exact h)
def Sj{K:Bool->WK}(h:T W L (K (decide (a=b)))):T W L (ny [.u 0,.u 0,.u 0,.u 0,.u 0,.u 0,.u 0,.u 0,.u 0,.u 0,.i 0,.i 0,.i 0,.i 0] (ao a) (ao b) K):=I7 rfl rfl (by rw[Ri];exact h)
def WE{K:Bool->WK}(h:T W L (K (decide (k=j)))):T W L (ny [.u 0,.u 0,.u 0,.u 0,.u 0,.u 0,.u 0,.u 0,.u 0,.u 0,.i 0,.i 0,.i 0,.i 0,.i 0,.i 0,.u 0,.u 0,.u 0,.u 0,.u 0,.u 0,.u 0,.u 0,.u 0,.u 0,.i 0,.i 0,.i 0,.i 0,.i 0,.i 0,.i 0] (aI k) (aI j) K):=I7 rfl rfl (by rw[Rh];exact h)
def I6{cs:LV}{n j:Nat}{v:Value}{K:VK}(hj:j<n)(hv:cs[j]?=some v)(h:T W L (K v)):T W L (yO cs n (j:Int) K):=λw hs=>⟨v,⟨by omega,by omega,by rw[adR];exact hv⟩,h w hs⟩
def OR(ha:0<=a.flags/\a.flags<256)(hb:0<=b.flags/\b.flags<256)(h:T W L (K (.i (rB a b)))):T W L (mn (ao a) (ao b) K):=by
 unfold mn mn.j1
 repeat' first|apply ws;intros|apply wb|with_reducible refine bB (λh1=>?_) (λh1=>?_)|fail
 all_goals
  refine T.fin (T.dp h) ?_
  congr 1
  unfold rB
  all_goals try simp only[S7 ha.1 ha.2,S7 hb.1 hb.2,bz] at *
  all_goals (split<;>omega)
def ES(hf:0<=t.flags/\t.flags<256)(h:T W L (K (.bool (decide (gr t.flags))))):T W L (oe (ai t) K):=by
 unfold oe;apply ws;intros;refine T.fin (T.dp h) ?_;congr 1;(rw[aed];(try simp only[bz,false_iff,true_iff] at *)<;>(try simp only[S6 hf.1 hf.2,ad4] at *)<;>omega)
def qb(hf:0<=t.flags/\t.flags<256)(h:T W L (K (.bool (decide (has t.flags 2))))):T W L (iJ (ai t) K):=by
 unfold iJ;apply ws;intros;refine T.fin (T.dp h) ?_;congr 1;(rw[aed];(try simp only[bz,false_iff,true_iff] at *)<;>(try simp only[GV hf.1 hf.2,ad4] at *)<;>omega)
def BZ(hf:0<=t.flags/\t.flags<256)(h:T W L (K (.bool (decide (has t.flags 16\/has t.flags 32))))):T W L (mG (ai t) K):=by
 unfold mG;apply ws;intros;refine T.fin (T.dp h) ?_;congr 1;(rw[aed];(try simp only[bz,false_iff,true_iff] at *)<;>(try simp only[Zg hf.1 hf.2,ad4] at *)<;>omega)
def Fi(ht:0<=t.flags/\t.flags<256)(hu:0<=u.flags/\u.flags<256)(h:T W L (K (.i (qy t u)))):T W L (qd (ai t) (ai u) K):=by
 unfold qd
 repeat' first|apply ws;intros|apply wb|with_reducible refine MO ?_|fail
 rw[S5 ht.1 ht.2,S5 hu.1 hu.2];unfold qy at h;have e:({t with flags:=t.flags/2* 2}:Move)={u with flags:=u.flags/2* 2}↔({t with flags:=t.flags/2}:Move)={u with flags:=u.flags/2}:=by
  have Mh:t.flags/2* 2=u.flags/2* 2↔t.flags/2=u.flags/2:=by omega
  simp only[Md.Move.mk.injEq,Mh]
 refine dO (λh1=>?_) (λh1=>?_)
 ·rw[if_pos (e.1 (h1))] at h;exact T.dp h
 ·rw[if_neg (λhh=>h1 (e.2 hh))] at h;exact T.dp h
def zv(f:Int)(i:Nat):Int:=(([2,4,8]:List Int).take i).foldl (λn b=>if has f b then n+1 else n) 0
def Hs(hf:0<=t.flags/\t.flags<256)(h:T W L (K (.bool (decide (fw t.flags))))):T W L (gQ (ai t) K):=by
 unfold gQ;apply ws;intros;rename_i r;intro w hs;refine⟨λvs w=>∃i:Nat,i<=3/\vs=[.p (some (ad r 0)),.bool false,.i (zv t.flags i),.agg ⟨[.i 2,.i 4,.i 8]⟩,.i (i:Int)]/\St W w (Sep.pt r (ai t)::L),
  λvs _=>match vs with|[_,_,_,_,.int _ j]=>3-j.toNat|_=>0,⟨0,ad0 _,rfl,hs⟩,?_⟩
 rintro a1 b1 n1 Oq n2 w2 ⟨j,hj,e,hs⟩;cases e
 refine T.at ?_ hs;simp only[dW,adU];refine dO (λh1=>?_) (λh1=>?_)
 ·have aZ:j<3:=by omega
  have e5:=l9 j;have key:∃m:Int,([.i 2,.i 4,.i 8]:LV)[j]?=some (.i m)/\(bA .i64 .and t.flags m=0↔ ¬has t.flags m)/\zv t.flags (j+1)=(if has t.flags m then zv t.flags j+1 else zv t.flags j)/\0<=zv t.flags j/\zv t.flags j<=j:=by
   match j,aZ with
   |0,_=>exact⟨2,rfl,GV hf.1 hf.2,rfl,afq 0,afq 0⟩
   |1,_=>exact⟨4,rfl,GU hf.1 hf.2,rfl,by simp only[zv,List.take,List.foldl];split<;>decide,by simp only[zv,List.take,List.foldl];split<;>decide⟩
   |2,_=>exact⟨8,rfl,OH hf.1 hf.2,rfl,by simp only[zv,List.take,List.foldl];split<;>split<;>decide,by simp only[zv,List.take,List.foldl];split<;>split<;>decide⟩
  obtain⟨m,k1,k2,k3,k4,k5⟩:=key;refine I6 (by omega) k1 ?_
  repeat' first|apply ws;intros|apply wb|with_reducible refine bB (λh1=>?_) (λh1=>?_)|fail
  all_goals rw[e5]
  ·have h2:has t.flags m:=by
    have:=(bne_iff_ne.1 h1);rw[ne_eq,k2,ad4] at this;exact this
   rw[if_pos h2] at k3;rw[aw (by omega),<-k3];exact λw3 h3=>⟨⟨j+1,aZ,rfl,h3⟩,by show 3-((j+1:Nat):Int).toNat<3-(j:Int).toNat;omega⟩
  ·have h2: ¬has t.flags m:=k2.1 (bne_eq_false_iff_eq.1 h1);rw[if_neg h2] at k3;rw[<-k3];exact λw3 h3=>⟨⟨j+1,aZ,rfl,h3⟩,by show 3-((j+1:Nat):Int).toNat<3-(j:Int).toNat;omega⟩
 ·have he:j=3:=by omega
  subst he;have hc:zv t.flags 3<=1↔ ¬(has t.flags 2/\has t.flags 4\/has t.flags 2/\has t.flags 8\/has t.flags 4/\has t.flags 8):=by
   simp only[zv,List.take,List.foldl];by_cases h2:has t.flags 2<;>by_cases h4:has t.flags 4<;>by_cases h8:has t.flags 8<;>simp[h2,h4,h8]
  simp only[gQ.j1,dW,adU]
  repeat' first|apply ws;intros|apply wb|with_reducible first|refine ES hf ?_|refine qb hf ?_|refine bB (λh1=>?_) (λh1=>?_)|fail
  all_goals
   refine T.fin (T.dp h) ?_
   congr 1
   rw[aed]
   all_goals try simp only[S6 hf.1 hf.2,acX hf.1 hf.2,acY hf.1 hf.2,hc,true_iff,false_iff,bz] at *
   all_goals (unfold fw;simp_all<;>(intros;omega))
def LK(t:Move):Int:=if t.pending=0 then 16 else if t.aF<0\/4294967296<=t.aF then 8 else if t.code<0\/65536<=t.code then 9 else 0
def LJ(t:Move):Int:=if t.aE=0 then 12 else if t.ar=0 then 13 else if t.aE=t.ar then 14 else if t.pending≠0 then 15 else if t.aB=0/\ ¬has t.flags 16/\ ¬has t.flags 32 then 18
 else if t.aF<1\/4294967296<=t.aF then 8 else if t.code<1\/65536<=t.code then 9 else 0
def Oe(h:T W L (K (.i (LK t)))):T W L (kK (ai t) K):=by
 unfold kK kK.j1
 repeat' first|apply ws;intros|apply wb|with_reducible first|refine qz ?_|refine bB (λh1=>?_) (λh1=>?_)|fail
 all_goals try simp only[bz] at *
 all_goals (refine T.fin (T.dp h) ?_;congr 1;unfold LK;repeat' split)
 all_goals omega
def NA(hf:0<=t.flags/\t.flags<256)(h:T W L (K (.i (LJ t)))):T W L (gn (ai t) K):=by
 unfold gn gn.j1 gn.j2
 repeat' first|apply ws;intros|apply wb|with_reducible first|refine qz ?_|refine BZ hf ?_|refine bB (λh1=>?_) (λh1=>?_)|fail
 all_goals try simp only[bz] at *
 all_goals (refine T.fin (T.dp h) ?_;congr 1;unfold LJ has at *;repeat' split)
 all_goals first|rfl|omega
def Fh(G:px W)(ht:tB t)(h:T W L (K (.i (kC t)))):T W L (cR (ai t) K):=by
 by_cases hf:0<=t.flags/\t.flags<256
 ·unfold cR cR.j1 cR.j2 cR.j4 cR.j3;rw[show kC t=if t.flags<0\/255<t.flags then 3 else if t.id=0 then 4 else if t.id=aK-1 then 5 else if ¬fw t.flags then 6
   else if t.ae≠0\/t.born≠0 then 7 else if t.timeout<0\/1073741824<t.timeout\/0<t.timeout/\ ¬has t.flags 2 then 17
   else if gr t.flags then LK t else LJ t from rfl] at h
  repeat' first|apply ws;intros|apply wb|with_reducible first|refine qz ?_|refine I5 ⟨tV _,G.QF⟩ ?_|refine Hs hf ?_|refine ES hf ?_|refine qb hf ?_|refine Oe ?_|refine NA hf ?_|refine bB (λh1=>?_) (λh1=>?_)|fail
  all_goals try simp only[bz] at *
  all_goals (refine T.fin (T.dp h) ?_;congr 1;repeat' split)
  all_goals first|rfl|omega|(simp_all;done)|(simp_all;omega)
 ·unfold cR cR.j1;rw[show kC t=3 from if_pos (by omega)] at h;apply ws;intros;refine dO (λh1=>?_) (λh1=>?_)
  ·rw[gU];exact T.dp h
  apply ws;intros;rw[decide_eq_true (by omega),gU];exact T.dp h
end
end Go.Up
namespace Go.Md
def fY(a:aP)(aE:Bool):Nat:=if aE then a.cq-(a.dp+a.dq) else a.dq-(a.cp+a.cq)
def more(a:aP)(aE:Bool)(n:Nat)(pending:Bool):aP×Int:=
 if aE then
  (if aK<=a.dp+a.dq+n then(a,32) else if has a.flags 2/\fY a true<n then(a,33) else(if pending then{a with dp:=a.dp+n} else{a with dq:=a.dq+n},0))
 else
  (if aK<=a.cp+a.cq+n then(a,32) else if has a.flags 4/\fY a false<n then(a,34) else(if pending then{a with cp:=a.cp+n} else{a with cq:=a.cq+n},0))
def Model.full(m:Model)(a:aP):aP:=m.kept.foldl sy a
def Model.find(m:Model)(id:Nat):Option aP:=m.made.find? λa=>a.id=id
def Model.name(m:Model)(id:Nat):Option Nat:=m.kept.findIdx? λk=>k.move.id=id
def Model.make(m:Model)(a:aP):Int×Model:=
 if qG a≠0 then(qG a,m) else match m.find a.id with
 |some x=>(rB a x,m)
 |none=>if 32<=m.made.length then(35,m) else(0,{m with ae:=m.ae+1,made:=m.made++[{a with ae:=m.ae+1,flags:=a.flags/2* 2}]})
def Model.jT(m:Model)(asked t:Move)(fate:Int):Model:=
 {m with ae:=m.ae+1,kept:=m.kept++[⟨asked,{t with ae:=m.ae+1,born:=m.clock},fate⟩]}
def bF(t:Move)(d c:aP):Nat×Int:=
 let n0:=if t.aB=0 then aK-1 else t.aB
 let n1:=if has t.flags 16 then min n0 (fY d true) else n0
 if has t.flags 16/\n1=0 then(0,33) else
 let n2:=if has t.flags 32 then min n1 (fY c false) else n1
 if has t.flags 32/\n2=0 then(0,34) else(n2,0)
def gL(t:Move)(named:Option Kept)(d c:Option aP)(many:Nat):Int×Nat:=
 if kC t≠0 then(kC t,0) else if gr t.flags then(6,0) else match named with
 |some k=>(qy t k.asked,0)
 |none=>match d with
  |none=>(19,0)
  |some d=>match c with
   |none=>(20,0)
   |some c=>
    if d.aF≠c.aF then(21,0) else if d.aF≠t.aF then(22,0) else if 8<=d.flags then(30,0) else if 8<=c.flags then(31,0)
    else if 96<=many then(35,0)
    else if(bF t d c).2≠0 then((bF t d c).2,0)
    else if(more d true (bF t d c).1 (decide (has t.flags 2))).2≠0 then((more d true (bF t d c).1 (decide (has t.flags 2))).2,0)
    else if(more c false (bF t d c).1 (decide (has t.flags 2))).2≠0 then((more c false (bF t d c).1 (decide (has t.flags 2))).2,0)
    else(0,(bF t d c).1)
def waits(t:Move):Int:=if has t.flags 2 then 1 else 0
def Model.named(m:Model)(id:Nat):Option Kept:=m.kept.find? λk=>k.move.id=id
def Model.move(m:Model)(t:Move):Int×Model:=
 let r:=gL t (m.named t.id) ((m.find t.aE).map m.full) ((m.find t.ar).map m.full) m.kept.length
 if r.1≠0 then(r.1,m) else(0,m.jT t {t with aB:=r.2} (waits t))
def Model.closed(m:Model)(id:Nat)(RF:Nat):Bool:=
 match m.find id with
 |some a=>decide (8<=((m.kept.modify RF λk=>{k with fate:=3}).foldl sy a).flags)
 |none=>false
def cZ(t p:Move):Prop:=(t.aE≠0/\t.aE≠p.aE)\/(t.ar≠0/\t.ar≠p.ar)\/(t.aF≠0/\t.aF≠p.aF)\/(t.code≠0/\t.code≠p.code)
instance(t p:Move):Decidable (cZ t p):=by unfold cZ;infer_instance
def bK(t p:Move):Nat:=if t.aB=0 then p.aB else t.aB
def iP(t p:Move):Prop:=(has t.flags 4/\p.aB<bK t p)\/(¬has t.flags 4/\bK t p≠p.aB)
instance(t p:Move):Decidable (iP t p):=by unfold iP;infer_instance
def kO(t:Move)(named KN:Option Kept)(Rv RD:Bool)(many:Nat):Int:=
 if kC t≠0 then kC t else if ¬gr t.flags then 6 else match named with
 |some k=>qy t k.asked
 |none=>match KN with
  |none=>23
  |some k=>
   if ¬has k.move.flags 2 then 24 else if cZ t k.move then 25 else if 1<k.fate then 25+k.fate else if iP t k.move then 26
   else if has t.flags 4/\Rv=true then 30 else if has t.flags 4/\RD=true then 31 else if 96<=many then 35 else 0
def bU(t:Move):Int:=if has t.flags 4 then 2 else 3
def jV(t p:Move):Move:={t with aE:=p.aE,ar:=p.ar,aB:=bK t p,aF:=p.aF,code:=p.code}
def Model.cI(m:Model)(i:Nat)(fate:Int):Model:={m with kept:=m.kept.modify i λk=>{k with fate:=fate}}
def Model.l6(m:Model)(t:Move):Int×Model:=
 match m.name t.pending with
 |none=>(kO t (m.named t.id) none false false m.kept.length,m)
 |some i=>match m.kept[i]? with
  |none=>(kO t (m.named t.id) none false false m.kept.length,m)
  |some k=>
   let r:=kO t (m.named t.id) (some k) (m.closed k.move.aE i) (m.closed k.move.ar i) m.kept.length
   if r≠0 then(r,m) else(0,(m.cI i (bU t)).jT t (jV t k.move) 0)
def ju(clock:Int)(k:Kept):Prop:=k.fate=1/\0<k.move.timeout/\k.move.born+k.move.timeout<=clock
instance(clock:Int)(k:Kept):Decidable (ju clock k):=by unfold ju;infer_instance
def Model.time(m:Model)(now:Int):Model:=
 let clock:=if m.clock<now/\now<=1099511627776 then now else m.clock
 {m with clock:=clock,kept:=m.kept.map λk=>if ju clock k then{k with fate:=4} else k}
def Model.nZ(m:Model)(t:Move):Int×Model:=if kC t=0/\gr t.flags then m.l6 t else m.move t
def ax.find(b:ax)(id:Nat):Option aP:=b.ag.find? λa=>a.id=id
def ax.aH(b:ax)(a:aP):ax:={b with ag:=b.ag.map λx=>if x.id=a.id then{a with ae:=x.ae} else x}
def ax.jT(b:ax)(asked t:Move)(fate:Int):ax:=
 {b with ae:=b.ae+1,kept:=b.kept++[⟨asked,{t with ae:=b.ae+1,born:=b.clock},fate⟩]}
def ax.fate(b:ax)(id:Nat)(fate:Int):ax:={b with kept:=b.kept.map λk=>if k.move.id=id/\k.fate=1 then{k with fate:=fate} else k}
def ax.make(b:ax)(a:aP):Int×ax:=
 if qG a≠0 then(qG a,b) else match b.find a.id with
 |some x=>(rB a x,b)
 |none=>if 32<=b.ag.length then(35,b) else(0,{b with ae:=b.ae+1,ag:=b.ag++[{a with ae:=b.ae+1,flags:=a.flags/2* 2}]})
def close(a:aP)(yes:Prop)[Decidable yes]:aP:=if yes then{a with flags:=a.flags%8+8} else a
def open_(a:aP)(yes:Prop)[Decidable yes]:aP:=if yes then{a with flags:=a.flags%8} else a
def ax.named(b:ax)(id:Nat):Option Kept:=b.kept.find? λk=>k.move.id=id
def ax.yL(b:ax)(t:Move)(n:Nat):ax:=
 match b.find t.aE,b.find t.ar with
 |some d,some c=>((b.aH (close (more d true n (decide (has t.flags 2))).1 (has t.flags 64))).aH (close (more c false n (decide (has t.flags 2))).1 (has t.flags 128))).jT t {t with aB:=n} (waits t)
 |_,_=>b
def ax.move(b:ax)(t:Move):Int×ax:=
 let r:=gL t (b.named t.id) (b.find t.aE) (b.find t.ar) b.kept.length
 if r.1≠0 then(r.1,b) else(0,b.yL t r.2)
def vx(d:aP)(p:Move)(n:Nat)(fate:Int):aP:=if fate=2 then{d with dp:=d.dp-p.aB,dq:=d.dq+n} else open_ {d with dp:=d.dp-p.aB} (has p.flags 64)
def wv(c:aP)(p:Move)(n:Nat)(fate:Int):aP:=if fate=2 then{c with cp:=c.cp-p.aB,cq:=c.cq+n} else open_ {c with cp:=c.cp-p.aB} (has p.flags 128)
def ax.release(b:ax)(p:Move)(n:Nat)(fate:Int):ax:=
 match b.find p.aE,b.find p.ar with
 |some d,some c=>((b.aH (vx d p n fate)).aH (wv c p n fate)).fate p.id fate
 |_,_=>b
def ax.ja(b:ax)(id:Nat)(by_:Prop)[Decidable by_]:Bool:=match b.find id with|some d=>decide (8<=d.flags/\ ¬by_)|none=>false
def ax.l6(b:ax)(t:Move):Int×ax:=
 match b.named t.pending with
 |none=>(kO t (b.named t.id) none false false b.kept.length,b)
 |some k=>
  let r:=kO t (b.named t.id) (some k) (b.ja k.move.aE (has k.move.flags 64)) (b.ja k.move.ar (has k.move.flags 128)) b.kept.length
  if r≠0 then(r,b) else(0,(b.release k.move (bK t k.move) (bU t)).jT t (jV t k.move) 0)
def ax.nZ(b:ax)(t:Move):Int×ax:=if kC t=0/\gr t.flags then b.l6 t else b.move t
end Go.Md
namespace Go.Up
open Go.Sep Go.Den Go.RowKit Go.Prog Go.Md
section
variable {W:World} {L:LH} {K:VK} {a:aP} {n m:Nat} {p:Bool}
def TJ{a b:Nat}:(if a+b<aK then a+b else aK-1)<aK:=by unfold aK;split<;>omega
def IZ(G:px W)(hn:n<aK)(hm:m<aK)(h:T W L (K (.agg ⟨nm (if n+m<aK then n+m else aK-1)⟩))):T W L (fq (nm n) (nm m) K):=by
 unfold fq
 repeat' first|apply ws;intros|apply wb|with_reducible first|refine zj hn hm ?_|refine I5 ⟨tV _,G.QF⟩ ?_|refine bB (λh1=>?_) (λh1=>?_)|fail
 all_goals (refine T.fin (T.dp h) ?_;congr 3;all_goals try simp only[bz] at *)
 ·rw[if_neg (by omega)]
 ·rw[if_pos h1,if_pos h1]
def EP(G:px W)(ha:uu a)(h:T W L (K (.agg ⟨nm (fY a p)⟩))):T W L (bS (ao a) p K):=by
 obtain⟨-,d1,d2,c1,c2,-,-,-,-⟩:=ha;unfold bS;have k1:∀x y z:Nat,x<aK->y<aK->z<aK->(if x<(if y+z<aK then y+z else aK-1) then 0 else x-(if y+z<aK then y+z else aK-1))=x-(y+z):=λx y z hx hy hz=>by
  by_cases hh:y+z<aK
  ·rw[if_pos hh];split<;>omega
  ·rw[if_neg hh];split<;>omega
 have e1:p=true->fY a p=a.cq-(a.dp+a.dq):=λe=>by rw[e];rfl
 have e2:p=false->fY a p=a.dq-(a.cp+a.cq):=λe=>by rw[e];rfl
 repeat' first|apply ws;intros|apply wb|with_reducible first|refine IZ G d1 d2 ?_|refine IZ G c1 c2 ?_|refine bB (λh1=>?_) (λh1=>?_)|fail
 all_goals simp only[bS.j1,bS.j2,bS.j3,bS.j4,bS.j5,bS.j6]
 all_goals repeat' first|apply ws;intros|apply wb|with_reducible refine OT (by assumption) TJ ?_|fail
 all_goals (refine T.fin (T.dp h) ?_;first|rw[e1 (by assumption),k1 _ _ _ (by assumption) (by assumption) (by assumption)]|rw[e2 (by assumption),k1 _ _ _ (by assumption) (by assumption) (by assumption)])
def Bn(ha:uu a):fY a p<aK:=by
 have:=ha.dq;have:=ha.cq;unfold fY;split<;>omega
def MX(x y z:Nat):yC 0 [x,y,z]=if x+y+z<aK then some (x+y+z) else none:=by
 simp only[yC,adU]
 repeat' split
 all_goals first|rfl|omega
def R5(G:px W)(ha:uu a)(hn:n<aK)(hf:0<=a.flags/\a.flags<256)(h:T W L (K (.tuple ⟨[.agg ⟨ao (more a true n p).1⟩,.i (more a true n p).2]⟩))):T W L (jX (ao a) (nm n) p K):=by
 unfold jX;apply ws;intros;rename_i r4;refine S9 (l:=[a.dp,a.dq,n]) (by simp;exact⟨ha.dp,ha.dq,hn⟩) (by show 3<1000;decide) ?_;rw[MX];apply ws;intros;unfold more at h;refine bB (λh1=>?_) (λh1=>?_)
 ·have hh: ¬a.dp+a.dq+n<aK:=λhh=>by rw[if_pos hh] at h1;cases h1
  rw[if_pos rfl,if_pos (by omega)] at h;apply ws;intros;exact T.dp h
 have hh:a.dp+a.dq+n<aK:=by
  by_cases hh:a.dp+a.dq+n<aK
  ·exact hh
  ·rw[if_neg hh] at h1;cases h1
 rw[if_pos rfl,if_neg (by omega)] at h;have j1:∀r5 r4 r3 r2 r1:Nat,∀c4 c5:LV,T W (Sep.pt r5 c5::Sep.pt r4 c4::Sep.pt r3 (ao zA)::Sep.pt r2 (nm n)::Sep.pt r1 (ao a)::L) (jX.j1 K r1 r3 p r2 (decide (has a.flags 2/\fY a true<n))):=λr5 r4 r3 r2 r1 c4 c5=>by
  unfold jX.j1;refine dO (λh1=>?_) (λh1=>?_)
  ·rw[if_pos (h1)] at h;apply ws;intros;exact T.dp h
  rw[if_neg (h1)] at h;refine bB (λh1=>?_) (λh1=>?_)
  ·rw[if_pos h1] at h;have hx:a.dp+n<aK:=by omega
   repeat' first|apply ws;intros|apply wb|with_reducible refine zj ha.dp hn ?_|fail
   rw[if_pos hx];exact T.dp h
  ·rw[if_neg (by rw[h1];decide)] at h;have hx:a.dq+n<aK:=by omega
   repeat' first|apply ws;intros|apply wb|with_reducible refine zj ha.dq hn ?_|fail
   rw[if_pos hx];exact T.dp h
 apply ws;intros;refine bB (λh1=>?_) (λh1=>?_)
 ·have h2:has a.flags 2:=by
   have:=bne_iff_ne.1 h1;rw[ne_eq,GV hf.1 hf.2,ad4] at this;exact this
  repeat' first|apply ws;intros|apply wb|with_reducible first|refine EP G ha ?_|refine yu ?_|fail
  have e:decide (fY a true<n)=decide (has a.flags 2/\fY a true<n):=by simp[h2]
  rw[e];exact j1 _ _ _ _ _ _ _
 ·have h2: ¬has a.flags 2:=(GV hf.1 hf.2).1 (bne_eq_false_iff_eq.1 h1);have e:false=decide (has a.flags 2/\fY a true<n):=by simp[h2]
  rw[e];exact j1 _ _ _ _ _ _ _
def Pf(G:px W)(ha:uu a)(hn:n<aK)(hf:0<=a.flags/\a.flags<256)(h:T W L (K (.tuple ⟨[.agg ⟨ao (more a false n p).1⟩,.i (more a false n p).2]⟩))):T W L (iS (ao a) (nm n) p K):=by
 unfold iS;apply ws;intros;rename_i r4;refine S9 (l:=[a.cp,a.cq,n]) (by simp;exact⟨ha.cp,ha.cq,hn⟩) (by show 3<1000;decide) ?_;rw[MX];apply ws;intros;unfold more at h;refine bB (λh1=>?_) (λh1=>?_)
 ·have hh: ¬a.cp+a.cq+n<aK:=λhh=>by rw[if_pos hh] at h1;cases h1
  rw[if_neg (by decide),if_pos (by omega)] at h;apply ws;intros;exact T.dp h
 have hh:a.cp+a.cq+n<aK:=by
  by_cases hh:a.cp+a.cq+n<aK
  ·exact hh
  ·rw[if_neg hh] at h1;cases h1
 rw[if_neg (by decide),if_neg (by omega)] at h;have j1:∀r5 r4 r3 r2 r1:Nat,∀c4 c5:LV,T W (Sep.pt r5 c5::Sep.pt r4 c4::Sep.pt r3 (ao zA)::Sep.pt r2 (nm n)::Sep.pt r1 (ao a)::L) (iS.j1 K r1 r3 p r2 (decide (has a.flags 4/\fY a false<n))):=λr5 r4 r3 r2 r1 c4 c5=>by
  unfold iS.j1;refine dO (λh1=>?_) (λh1=>?_)
  ·rw[if_pos (h1)] at h;apply ws;intros;exact T.dp h
  rw[if_neg (h1)] at h;refine bB (λh1=>?_) (λh1=>?_)
  ·rw[if_pos h1] at h;have hx:a.cp+n<aK:=by omega
   repeat' first|apply ws;intros|apply wb|with_reducible refine zj ha.cp hn ?_|fail
   rw[if_pos hx];exact T.dp h
  ·rw[if_neg (by rw[h1];decide)] at h;have hx:a.cq+n<aK:=by omega
   repeat' first|apply ws;intros|apply wb|with_reducible refine zj ha.cq hn ?_|fail
   rw[if_pos hx];exact T.dp h
 apply ws;intros;refine bB (λh1=>?_) (λh1=>?_)
 ·have h2:has a.flags 4:=by
   have:=bne_iff_ne.1 h1;rw[ne_eq,GU hf.1 hf.2,ad4] at this;exact this
  repeat' first|apply ws;intros|apply wb|with_reducible first|refine EP G ha ?_|refine yu ?_|fail
  have e:decide (fY a false<n)=decide (has a.flags 4/\fY a false<n):=by simp[h2]
  rw[e];exact j1 _ _ _ _ _ _ _
 ·have h2: ¬has a.flags 4:=(GU hf.1 hf.2).1 (bne_eq_false_iff_eq.1 h1);have e:false=decide (has a.flags 4/\fY a false<n):=by simp[h2]
  rw[e];exact j1 _ _ _ _ _ _ _
end
end Go.Up
namespace Go.Up
open Go.Sep Go.Den Go.RowKit Go.Prog Go.Md Go.bu
section
variable {W:World} {L:LH} {K:VK} {X:WK} {α:Type} {r n c e o j:Nat} {l:List α} {x y:α} {g:α->LV} {f:HP->LH}
def dy{K:LV->WK}[i:oS (some ⟨r,0,none⟩) n c L e (l.flatMap g) f](hf:∀x,(g x).length=e)(hx:l[o]?=some x)(h:T W L (K (g x))):T W L (ah ⟨r,o* e,none⟩ e K):=λw hs=>by
 obtain⟨k,hk,_⟩:=i.at_;exact Ea hs hk (hf x) (nL hf l o x hx) (h w hs)
def Aq{v:Value}[i:oS (some ⟨r,0,none⟩) n c L e (l.flatMap g) f](hf:∀x,(g x).length=e)(hx:l[o]?=some x)(hv:(g x)[j]?=some v)(h:T W L (K v)):T W L (ld ⟨r,o* e+j,none⟩ K):=λw hs=>by
 obtain⟨k,hk,_⟩:=i.at_;exact xX hs hk (nL hf l o x hx j v hv) (h w hs)
def vk{v:Value}[i:oS (some ⟨r,0,none⟩) n c L e (l.flatMap g) f](hf:∀x,(g x).length=e)(hx:l[o]?=some x)(hv:(g x)[0]?=some v)(h:T W L (K v)):T W L (ld ⟨r,o* e,none⟩ K):=Aq (j:=0) hf hx hv h
def En(hf:∀x,(g x).length=e)(ho:o<l.length):o* e+e<=(l.flatMap g).length:=by
 rw[wX hf,<-Nat.succ_mul];exact aeC e ho
def mW[i:oS (some ⟨r,0,none⟩) n c L e (l.flatMap g) f](hf:∀x,(g x).length=e)(ho:o<l.length)(h1:∀v∈g x,v.oneCell'=true)
 (h:T W (f (own (some ⟨r,0,none⟩) n c e ((l.set o x).flatMap g))) X):T W L (ga ⟨r,o* e,none⟩ (g x) X):=λw hs=>by
 obtain⟨k,hk,e1⟩:=i.at_;refine P5 hs hk (by rw[hf];exact En hf ho) h1 λw' h'=>h w' ?_;rw[e1,<-Bs hf l o x ho];exact h'
def yg{v:Value}(hf:∀x,(g x).length=e)(hx:l[o]?=some x)(hy:g y=(g x).set j v)(hj:j<e):(l.flatMap g).set (o* e+j) v=(l.set o y).flatMap g:=by
 have ho:=(adS.1 hx).1;have hle:=En hf ho;rw[<-Bs hf l o y ho];apply afa;intro i;rw[wB (by rw[hf];exact hle),aem];by_cases h1:i<o* e
 ·rw[if_pos h1,if_neg (by omega)]
 ·rw[if_neg h1];by_cases h2:i<o* e+(g y).length
  ·rw[if_pos h2,hy,aem];rw[hf] at h2;obtain⟨m,rfl⟩:∃m,i=o* e+m:=⟨i-o* e,by omega⟩;rw[Nat.add_sub_cancel_left];by_cases h3:j=m
   ·subst h3;rw[if_pos rfl,if_pos rfl,if_pos (by omega),if_pos (by rw[hf];omega)]
   ·rw[if_neg (by omega),if_neg h3];have hm:m<(g x).length:=by rw[hf];omega
    rw[adQ hm];exact nL hf l o x hx m _ (adQ hm)
  ·rw[if_neg h2,if_neg (by rw[hf] at h2;omega)]
def An{v:Value}[i:oS (some ⟨r,0,none⟩) n c L e (l.flatMap g) f](hf:∀x,(g x).length=e)(hx:l[o]?=some x)(hy:g y=(g x).set j v)(hj:j<e)(h1:v.oneCell'=true)
 (h:T W (f (own (some ⟨r,0,none⟩) n c e ((l.set o y).flatMap g))) X):T W L (st ⟨r,o* e+j,none⟩ v X):=λw hs=>by
 obtain⟨k,hk,e1⟩:=i.at_;have ho:=(adS.1 hx).1;have hle:=En (g:=g) hf ho;refine DQ hs hk (by omega) h1 λw' h'=>h w' ?_;rw[e1,<-yg hf hx hy hj];exact h'
def DL{bytes:Nat}{zero:LV}{len cap:Int}{K:OA->Nat->Nat->WK}(h0:0<=len/\len<=cap/\cap<=9223372036854775807/\cap* bytes<=281474976710656)
 (hK:∀r,T W (own (some ⟨r,0,none⟩) len.toNat cap.toNat zero.length (Builtin.zeroCells ⟨zero⟩ len.toNat).toList::L) (K (some ⟨r,0,none⟩) len.toNat cap.toNat)):T W L (FW bytes zero len cap K):=λw hs=>
 NC hs h0 λr w' h'=>hK r w' h'
def nB{z:α}{zs:LV}(hz:g z=zs)(m:Nat):(Builtin.zeroCells ⟨zs⟩ m).toList=(ad6 m z).flatMap g:=by
 subst hz
 induction m with
 |zero=>simp[Builtin.zeroCells]
 |succ m ih=>
  rw[List.replicate_succ',aeN,<-ih];simp only[Builtin.zeroCells,Array.toList_map,Array.toList_range,aeE,List.flatMap_nil,aeb];rw[afe,Nat.one_mul,List.range_add,aen,afr]
  congr 1
  show(afl (g z).length).map _=g z;apply afa;intro j;rw[aeD];by_cases hj:j<(g z).length
  ·rw[afi hj,adQ hj];show some _=some _
   congr 1
   simp only[Function.comp];show(⟨g z⟩:Array Value)[(m* (g z).length+j)%(g z).length]! =_;rw[afo,Nat.mul_add_mod,aez hj];simp[hj]
  ·rw[aeR (by simpa using hj),aeR (by omega)];rfl
end
structure Cell where
 key:Nat
 at_:Int
 kind:Int
def kj(c:Cell):LV:=nm c.key++[.i c.at_,.int .u8 c.kind]
def oE(c:Cell):(kj c).length=4:=rfl
instance{c:Cell}:Ln (kj c) 4:=⟨rfl⟩
instance{c:Cell}:Gt (kj c) 3 (.int .u8 c.kind):=⟨rfl⟩
def uO(c:Cell):∀v∈kj c,v.oneCell'=true:=k8 (kA _) λv h=>by simp at h;rcases h with rfl|rfl<;>rfl
def Jd(n1 n2:Int):Int:=IntKind.u64.wrap ((bA .u64 .xor (bA .u64 .xor n1 (shl .u64 n2 31)) (shr .u64 n2 33))* 11400714819323198485)
def Jc(x:Int):Int:=bA .u64 .xor x (shr .u64 x 29)
def spread(k:Nat):Int:=Jc (Jd ((k%18446744073709551616:Nat):Int) ((k/18446744073709551616:Nat):Int))
def Pow(N:Nat):Prop:=∃j,3<=j/\j<=20/\N=2^j
def Pow.ge{N:Nat}(h:Pow N):8<=N:=by
 obtain⟨j,h1,h2,rfl⟩:=h;exact aeH (by decide) h1 (n:=2)
def Pow.le{N:Nat}(h:Pow N):N<=1048576:=by
 obtain⟨j,h1,h2,rfl⟩:=h;exact aeH (by decide) h2 (n:=2)
def GZ{N x:Nat}(h:Pow N)(hx:x<18446744073709551616):bA .u64 .and (x:Int) ((N:Int) -1)=((x%N:Nat):Int):=by
 have h1:=h.ge;have h2:=h.le;obtain⟨j,-,-,rfl⟩:=h;have e:((2^j:Nat):Int) -1=((2^j-1:Nat):Int):=by omega
 rw[e];unfold bA;show IntKind.u64.wrap (((BitVec.ofInt 64 (x:Int)&&&BitVec.ofInt 64 ((2^j-1:Nat):Int)).toNat:Nat):Int)=_;rw[BitVec.toNat_and];have t1:(BitVec.ofInt 64 (x:Int)).toNat=x:=by simp only[BitVec.toNat_ofInt];omega
 have t2:(BitVec.ofInt 64 ((2^j-1:Nat):Int)).toNat=2^j-1:=by simp only[BitVec.toNat_ofInt];omega
 rw[t1,t2,Nat.and_two_pow_sub_one_eq_mod];have:x%2^j<=x:=Nat.mod_le _ _;exact oo (by omega)
def NL(op:BinOp)(x y:Int)(h:op=.and\/op=.or\/op=.xor\/op=.andNot):0<=bA .u64 op x y/\bA .u64 op x y<18446744073709551616:=by
 rcases h with h|h|h|h<;>subst h<;>(unfold bA;dsimp only;simp only[IntKind.wrap,IntKind.bits,IntKind.signed];simp;omega)
def hh(N k:Nat):Nat:=(spread k).toNat%N
def XN{N:Nat}(h:0<N)(k:Nat):hh N k<N:=Nat.mod_lt _ h
def Hy(k:Nat):0<=spread k/\spread k<18446744073709551616:=by
 unfold spread;generalize Jd _ _=x;unfold Jc;generalize shr .u64 x 29=y;exact NL .xor x y (by simp)
def Hz{N k:Nat}(h:Pow N):bA .u64 .and (spread k) ((N:Int) -1)=((hh N k:Nat):Int):=by
 obtain⟨h1,h2⟩:=Hy k;unfold hh;generalize spread k=x at h1 h2;obtain⟨n,rfl⟩:∃n:Nat,x=n:=⟨x.toNat,by omega⟩;rw[adR];exact GZ h (by omega)
def NF(cs:List Cell)(i:Nat):Prop:=∃c:Cell,cs[i]?=some c/\c.kind≠0
structure TI(cs:List Cell)(m:Nat->Option Int)(u lf:Nat):Prop where
 pow:Pow cs.length
 kinds:∀c∈cs,c.kind=0\/c.kind=1\/c.kind=2
 used:cs.countP (λc:Cell=>c.kind=1)=u
 left:cs.countP (λc:Cell=>c.kind=2)=lf
 room:4* (u+lf)<=3* cs.length
 run:∀(i:Nat)(c:Cell),cs[i]?=some c->c.kind=1->∃d,d<cs.length/\i=(hh cs.length c.key+d)%cs.length/\∀j,j<d->NF cs ((hh cs.length c.key+j)%cs.length)
 is:∀(i:Nat)(c:Cell),cs[i]?=some c->c.kind=1->m c.key=some c.at_
 has:∀k v,m k=some v->∃(i:Nat)(c:Cell),cs[i]?=some c/\c.kind=1/\c.key=k
 one:∀(i j:Nat)(c d:Cell),cs[i]?=some c->cs[j]?=some d->c.kind=1->d.kind=1->c.key=d.key->i=j
def Ow:∀(cs:List Cell),(∀c∈cs,c.kind=0\/c.kind=1\/c.kind=2)->cs.countP (λc:Cell=>c.kind=0)+cs.countP (λc:Cell=>c.kind=1)+cs.countP (λc:Cell=>c.kind=2)=cs.length
 |[],_=>rfl
 |c::cs,h=>by
  have ih:=Ow cs λd hd=>h d (by simp[hd]);simp only[List.countP_cons,ad8];rcases h c (by simp) with e|e|e<;>simp[e]<;>omega
def countP_set{p:Cell->Bool}:∀(cs:List Cell)(i:Nat)(c x:Cell),cs[i]?=some c->(cs.set i x).countP p+(if p c then 1 else 0)=cs.countP p+(if p x then 1 else 0)
 |[],i,c,x,h=>by simp at h
 |d::cs,0,c,x,h=>by
  simp at h;subst h;simp only[List.set_cons_zero,List.countP_cons];omega
 |d::cs,i+1,c,x,h=>by
  have ih:=countP_set (p:=p) cs i c x (by simpa using h);simp only[ae5,List.countP_cons];omega
def TI.free{cs:List Cell}{m:Nat->Option Int}{u lf:Nat}(h:TI cs m u lf)(s:Nat)(ha:∀j,j<cs.length->NF cs ((s+j)%cs.length)):False:=by
 have h8:=h.pow.ge;have hc:=Ow cs h.kinds;rw[h.used,h.left] at hc;have h0:0<cs.countP (λc:Cell=>c.kind=0):=by have:=h.room;omega
 rw[List.countP_pos_iff] at h0;obtain⟨c,hm,hk⟩:=h0;obtain⟨i,hi⟩:=ae' hm;have aZ:=(adS.1 hi).1;have e:(s+(i+cs.length-s%cs.length)%cs.length)%cs.length=i:=by
  have h1:s%cs.length<cs.length:=Nat.mod_lt _ (by omega);rw[Nat.add_mod_mod,Nat.add_mod,];have:s+(i+cs.length-s%cs.length)=cs.length* (s/cs.length+1)+i:=by
   have:=Nat.div_add_mod s cs.length;rw[Nat.mul_add];omega
  rw[<-Nat.add_mod,this,Nat.mul_add_mod,aez aZ]
 obtain⟨d,hd,hn⟩:=ha ((i+cs.length-s%cs.length)%cs.length) (Nat.mod_lt _ (by omega));rw[e,hi] at hd;cases hd
 simp at hk;exact hn hk
structure FR(cs:List Cell)(k p:Nat):Prop where
 place:∃(c:Cell)(d:Nat),cs[p]?=some c/\c.kind≠1/\d<cs.length/\p=(hh cs.length k+d)%cs.length/\∀j,j<d->NF cs ((hh cs.length k+j)%cs.length)
 none_:∀(i:Nat)(c:Cell),cs[i]?=some c->c.kind=1->c.key≠k
def sj(m:Nat->Option Int)(k:Nat)(v:Option Int):Nat->Option Int:=λj=>if j=k then v else m j
def NF.set{cs:List Cell}{i p:Nat}{x:Cell}(h:NF cs i)(hx:x.kind≠0):NF (cs.set p x) i:=by
 obtain⟨c,hc,hk⟩:=h;have aZ:=(adS.1 hc).1;unfold NF;rw[aem];by_cases e:p=i
 ·rw[if_pos e,if_pos (by omega)];exact⟨x,rfl,hx⟩
 ·rw[if_neg e];exact⟨c,hc,hk⟩
def TI.yq{cs:List Cell}{m:Nat->Option Int}{u lf k:Nat}(h:TI cs m u lf)(hn:∀(i:Nat)(c:Cell),cs[i]?=some c->c.kind=1->c.key≠k):m k=none:=by
 cases hm:m k with
 |none=>rfl
 |some v=>
  obtain⟨i,c,h1,h2,h3⟩:=h.has k v hm;exact absurd h3 (hn i c h1 h2)
def qR{cs:List Cell}{p i:Nat}{x c:Cell}(h:(cs.set p x)[i]?=some c):(i=p/\c=x/\p<cs.length)\/(i≠p/\cs[i]?=some c):=by
 rw[aem] at h;by_cases e:p=i
 ·rw[if_pos e] at h;by_cases hl:p<cs.length
  ·rw[if_pos (by omega)] at h;cases h;exact .inl ⟨e.symm,rfl,hl⟩
  ·rw[if_neg (by omega)] at h;cases h
 ·rw[if_neg e] at h;exact .inr ⟨λh=>e h.symm,h⟩
def TI.put{cs:List Cell}{m:Nat->Option Int}{u lf k p:Nat}{v:Int}{c:Cell}(h:TI cs m u lf)(f:FR cs k p)(hp:cs[p]?=some c)(hr:4* (u+lf+1)<=3* cs.length):
 TI (cs.set p ⟨k,v,1⟩) (sj m k (some v)) (u+1) (if c.kind=2 then lf-1 else lf):=by
 obtain⟨⟨c',d,Gn,hk,hd,hpd,hj⟩,kM⟩:=f;rw[hp] at Gn;cases Gn
 have aZ:=(adS.1 hp).1;have hl:(cs.set p ⟨k,v,1⟩).length=cs.length:=aeV;have c1:=countP_set (p:=λc:Cell=>c.kind=1) cs p c ⟨k,v,1⟩ hp;have c2:=countP_set (p:=λc:Cell=>c.kind=2) cs p c ⟨k,v,1⟩ hp;have ml:c∈cs:=aei hp;have hnk:=h.yq kM;rw[h.used] at c1;rw[h.left] at c2;refine⟨by rw[hl];exact h.pow,?_,?_,?_,?_,?_,?_,?_,?_⟩
 ·intro x hx;rcases aeG hx with hx|hx
  ·exact h.kinds x hx
  ·subst hx;exact .inr (.inl rfl)
 ·simp[hk] at c1;simpa using c1
 ·by_cases e:c.kind=2
  ·rw[if_pos e];simp[e] at c2;simpa using by omega
  ·rw[if_neg e];simp[e] at c2;simpa using c2
 ·rw[hl];split<;>omega
 ·rw[hl];intro i x hi hx;rcases qR hi with⟨rfl,rfl,_⟩|⟨gS,hi⟩
  ·exact⟨d,hd,hpd,λj h1=>(hj j h1).set (show(1:Int)≠0 by decide)⟩
  ·obtain⟨d',h1,h2,h3⟩:=h.run i x hi hx;exact⟨d',h1,h2,λj h4=>(h3 j h4).set (show(1:Int)≠0 by decide)⟩
 ·intro i x hi hx;rcases qR hi with⟨rfl,rfl,_⟩|⟨gS,hi⟩
  ·simp[sj]
  ·unfold sj;rw[if_neg (kM i x hi hx)];exact h.is i x hi hx
 ·intro k' v' yb;unfold sj at yb;by_cases e:k'=k
  ·subst e;exact⟨p,⟨k',v,1⟩,by rw[aem,if_pos rfl,if_pos aZ],rfl,rfl⟩
  ·rw[if_neg e] at yb;obtain⟨i,x,h1,h2,h3⟩:=h.has k' v' yb;refine⟨i,x,?_,h2,h3⟩;rw[aem,if_neg]
   ·exact h1
   ·intro e2;subst e2;rw[hp] at h1;cases h1;exact hk h2
 ·intro i j x y hi Hi hx hy he;rcases qR hi with⟨rfl,rfl,_⟩|⟨gS,hi⟩<;>rcases qR Hi with⟨rfl,rfl,_⟩|⟨aay,Hi⟩
  ·rfl
  ·exact absurd he.symm (kM j y Hi hy)
  ·exact absurd he (kM i x (by assumption) hx)
  ·exact h.one i j x y (by assumption) (by assumption) hx hy he
def TI.drop{cs:List Cell}{m:Nat->Option Int}{u lf p:Nat}{c:Cell}(h:TI cs m u lf)(hp:cs[p]?=some c)(hk:c.kind=1):
 TI (cs.set p ⟨0,0,2⟩) (sj m c.key none) (u-1) (lf+1)/\1<=u:=by
 have aZ:=(adS.1 hp).1;have hl:(cs.set p ⟨0,0,2⟩).length=cs.length:=aeV;have c1:=countP_set (p:=λc:Cell=>c.kind=1) cs p c ⟨0,0,2⟩ hp;have c2:=countP_set (p:=λc:Cell=>c.kind=2) cs p c ⟨0,0,2⟩ hp;rw[h.used] at c1;rw[h.left] at c2;have hu:1<=u:=by simp[hk] at c1;omega
 refine⟨⟨by rw[hl];exact h.pow,?_,?_,?_,by rw[hl];have:=h.room;omega,?_,?_,?_,?_⟩,hu⟩
 ·intro x hx;rcases aeG hx with hx|hx
  ·exact h.kinds x hx
  ·subst hx;exact .inr (.inr rfl)
 ·simp[hk] at c1;simpa using by omega
 ·simp[hk] at c2;simpa using c2
 ·rw[hl];intro i x hi hx;rcases qR hi with⟨rfl,rfl,_⟩|⟨gS,hi⟩
  ·exact absurd hx (by decide)
  ·obtain⟨d',h1,h2,h3⟩:=h.run i x hi hx;exact⟨d',h1,h2,λj h4=>(h3 j h4).set (by decide)⟩
 ·intro i x hi hx;rcases qR hi with⟨rfl,rfl,_⟩|⟨gS,hi⟩
  ·exact absurd hx (by decide)
  ·have:x.key≠c.key:=λe=>gS (h.one i p x c hi hp hx hk e);unfold sj;rw[if_neg this];exact h.is i x hi hx
 ·intro k' v' yb;unfold sj at yb;by_cases e:k'=c.key
  ·rw[if_pos e] at yb;cases yb
  ·rw[if_neg e] at yb;obtain⟨i,x,h1,h2,h3⟩:=h.has k' v' yb;refine⟨i,x,?_,h2,h3⟩;rw[aem,if_neg]
   ·exact h1
   ·intro e2;subst e2;rw[hp] at h1;cases h1;exact e h3.symm
 ·intro i j x y hi Hi hx hy he;rcases qR hi with⟨rfl,rfl,_⟩|⟨gS,hi⟩<;>rcases qR Hi with⟨rfl,rfl,_⟩|⟨aay,Hi⟩
  ·rfl
  ·exact absurd hx (by decide)
  ·exact absurd hy (by decide)
  ·exact h.one i j x y (by assumption) (by assumption) hx hy he
def TI.new{N:Nat}(h:Pow N):TI (ad6 N ⟨0,0,0⟩) (λ_=>none) 0 0:=by
 refine⟨by rw[aeX];exact h,?_,?_,?_,by omega,?_,?_,?_,?_⟩
 ·intro c hc;rw[List.eq_of_mem_replicate hc];exact .inl rfl
 ·rw[List.countP_replicate];rfl
 ·rw[List.countP_replicate];rfl
 ·intro i c hi hk;have:=List.eq_of_mem_replicate (aei hi);subst this;exact absurd hk (by decide)
 ·intro i c hi hk;have:=List.eq_of_mem_replicate (aei hi);subst this;exact absurd hk (by decide)
 ·intro k v hk;cases hk
 ·intro i j c d hi hj hk;have:=List.eq_of_mem_replicate (aei hi);subst this;exact absurd hk (by decide)
def Seen(cs:List Cell)(k d:Nat):Prop:=∀j,j<d->∃c:Cell,cs[(hh cs.length k+j)%cs.length]?=some c/\c.kind≠0/\ ¬(c.kind=1/\c.key=k)
def Seen.nf{cs:List Cell}{k d:Nat}(h:Seen cs k d):∀j,j<d->NF cs ((hh cs.length k+j)%cs.length):=λj hj=>by
 obtain⟨c,h1,h2,_⟩:=h j hj;exact⟨c,h1,h2⟩
def Seen.succ{cs:List Cell}{k d:Nat}{c:Cell}(h:Seen cs k d)(hc:cs[(hh cs.length k+d)%cs.length]?=some c)(h0:c.kind≠0)(h1: ¬(c.kind=1/\c.key=k)):Seen cs k (d+1):=λj hj=>by
 by_cases e:j=d
 ·subst e;exact⟨c,hc,h0,h1⟩
 ·exact h j (by omega)
def Seen.yq{cs:List Cell}{m:Nat->Option Int}{u lf k d:Nat}{c:Cell}(ht:TI cs m u lf)(h:Seen cs k d)(hd:d<cs.length)(hc:cs[(hh cs.length k+d)%cs.length]?=some c)(h0:c.kind=0):
 ∀(i:Nat)(c:Cell),cs[i]?=some c->c.kind=1->c.key≠k:=by
 intro i x hi hx he;obtain⟨d',h1,h2,h3⟩:=ht.run i x hi hx;rw[he] at h2 h3;by_cases e1:d'<d
 ·obtain⟨y,g1,g2,g3⟩:=h d' e1;rw[<-h2,hi] at g1;cases g1;exact g3 ⟨hx,he⟩
 ·by_cases e2:d<d'
  ·obtain⟨y,g1,g2⟩:=h3 d e2;rw[hc] at g1;cases g1;exact g2 h0
  ·have:d=d':=by omega
   subst this;rw[<-h2,hi] at hc;cases hc;rw[h0] at hx;cases hx
section
variable {y z:Cell} {x1 x2 x3 x4:Value}
instance:Wr [x1,x2,x3,x4] 0 (kj y) (kj y):=⟨rfl,adW _,uO y⟩
instance:Sub (kj y) 0 2 (nm y.key):=⟨uT rfl rfl⟩
instance:Sub (kj y) 0 4 (kj y):=⟨rfl,λj v h=>by rw[adU];exact h⟩
end
def ln(t:Nat)(x:(Nat->Option Int)×Nat):HP:=
 SX λq:OA×Nat×List Cell×Nat=>LQ (TI q.2.2.1 x.1 x.2 q.2.2.2) (sep (Sep.pt t [.l q.1 q.2.2.1.length q.2.1,.i (x.2:Int),.i (q.2.2.2:Int)]) (own q.1 q.2.2.1.length q.2.1 4 (q.2.2.1.flatMap kj)))
section
variable {W:World} {L:LH} {K:VK} {X:WK} {t:Nat} {x:(Nat->Option Int)×Nat} {f:(Nat->Option Int)×Nat->LH}
def MG[i:Lc (ln t) L x f](h:∀b c cs lf R,TI cs x.1 x.2 lf->(∀b' c' rz u' Hd m' Y,TI rz m' u' Hd->T W (f (m',u')) Y->T W (Sep.pt t [.l b' rz.length c',.i (u':Int),.i (Hd:Int)]::own b' rz.length c' 4 (rz.flatMap kj)::R) Y)->
 T W (Sep.pt t [.l b cs.length c,.i (x.2:Int),.i (lf:Int)]::own b cs.length c 4 (cs.flatMap kj)::R) X):T W L X:=
 MI (P:=ln t) λR hc w hs=>by
  obtain⟨⟨b,c,cs,lf⟩,hs⟩:=hs.ex;obtain⟨ht,hs⟩:=hs.and;refine h b c cs lf R ht (λb' c' rz u' Hd m' Y F8 hy w h'=>hc (m',u') Y hy w ?_) w hs.split;exact St.nM (b',c',rz,Hd) (St.and_intro F8 (St.join h'))
def T.aal{A B C:HP}{R:LH}(h:T W (A::B::C::R) X):T W (C::A::B::R) X:=T.perm h (ae2 (l₁:=[A,B])).symm
def M4{k:Nat}(h:T W L (K (.u (spread k)))):T W L (pH (nm k) K):=by
 unfold pH
 repeat' first|apply ws;intros|apply wb|with_reducible refine cK (by decide) ?_|fail
 refine T.fin (T.dp h) ?_
 rfl
def Tn{N:Nat}(h1:1<=N)(h2:N<=1048576):IntKind.u64.wrap (adN.wrap ((N:Int) -1))=(N:Int) -1:=by
 rw[aw (by omega)];obtain⟨n,hn⟩:∃n:Nat,(N:Int) -1=n:=⟨N-1,by omega⟩;rw[hn];exact oo (by omega)
def CM{N a d:Nat}(ha:a<N)(hd:d<N):((a+d)%N+N-a)%N=d:=by
 by_cases h:a+d<N
 ·rw[aez h,show a+d+N-a=N+d by omega,Nat.add_mod_left,aez hd]
 ·have:(a+d)%N=a+d-N:=by rw[Nat.mod_eq_sub_mod (by omega),aez (by omega)]
  rw[this,show a+d-N+N-a=d by omega,aez hd]
def M0{N a d:Nat}(hN:Pow N):bA .u64 .and (IntKind.u64.wrap ((((a+d)%N:Nat):Int)+1)) ((N:Int) -1)=(((a+(d+1))%N:Nat):Int):=by
 have h1:=hN.le;have h2:=hN.ge;have h3:(a+d)%N<N:=Nat.mod_lt _ (by omega);rw[show(((a+d)%N:Nat):Int)+1=(((a+d)%N+1:Nat):Int) by omega,oo (by omega),GZ hN (by omega)]
 congr 1
 rw[Nat.mod_add_mod];rfl
def Eo{b:OA}{c u lf k:Nat}{cs:List Cell}{m:Nat->Option Int}{x1 x2:Value}{f:LV->LH}{g:HP->LH}[i:Lc (Sep.pt t) L [.l b cs.length c,x1,x2] f][j:oS b cs.length c L 4 (cs.flatMap kj) g](ht:TI cs m u lf)
 (h1:∀(i:Nat)(y:Cell),cs[i]?=some y->y.kind=1->y.key=k->T W L (K (.tuple ⟨[.i (i:Int),.bool true]⟩)))
 (h2:∀p:Nat,FR cs k p->T W L (K (.tuple ⟨[.i (p:Int),.bool false]⟩))):T W L (bI (some ⟨t,0,none⟩) (nm k) K):=by
 have hN8:=ht.pow.ge;have hNl:=ht.pow.le;have hhl:=XN (N:=cs.length) (by omega) k;unfold bI
 repeat' first|apply ws;intros|apply wb|with_reducible refine M4 ?_|fail
 rename_i r1;intro w hs;rw[Tn (by omega) hNl,Hz ht.pow];refine⟨λvs w=>∃(d:Nat)(put:Int),d<cs.length/\Seen cs k d/\(put= -1\/∃(dp:Nat)(z:Cell),dp<d/\put=(((hh cs.length k+dp)%cs.length:Nat):Int)/\cs[(hh cs.length k+dp)%cs.length]?=some z/\z.kind=2)/\
                           vs=[.p (some (ad r1 0)),.i 0,.bool false,.u ((cs.length:Int) -1),.i put,.u (((hh cs.length k+d)%cs.length:Nat):Int)]/\St W w (Sep.pt r1 (nm k)::L),
  λvs _=>match vs with|[_,_,_,_,_,.int _ n]=>cs.length-(n.toNat+cs.length-hh cs.length k)%cs.length|_=>0,
  ⟨0,-1,by omega,λj hj=>by omega,.inl rfl,by rw[aeL,aez hhl],hs⟩,?_⟩
 rintro a1 n1 b1 n2 put n4 w2 ⟨d,adt,hd,F9,K6,e,hs⟩;cases e
 refine T.at ?_ hs;have aZ:(hh cs.length k+d)%cs.length<cs.length:=Nat.mod_lt _ (by omega);have hy:=adQ aZ;generalize cs[(hh cs.length k+d)%cs.length]=y at hy;have ml:y∈cs:=aei hy;have ewr:adN.wrap (((hh cs.length k+d)%cs.length:Nat):Int)=(((hh cs.length k+d)%cs.length:Nat):Int):=aw (by omega);apply ws;intros;refine bR ⟨by omega,by omega⟩ λr hr=>?_;subst hr;rw[adR];refine dy oE hy ?_;have next:∀(r2:Nat)(Nk:Int),y.kind≠0-> ¬(y.kind=1/\y.key=k)->(Nk=put\/Nk=(((hh cs.length k+d)%cs.length:Nat):Int)/\y.kind=2)->
                                                                                                                                                                                                                                                                                                                                                                           T W (Sep.pt r2 (kj y)::Sep.pt r1 (nm k)::L) (λw4=>(∃(d':Nat)(put:Int),d'<cs.length/\Seen cs k d'/\(put= -1\/∃(dp:Nat)(z:Cell),dp<d'/\put=(((hh cs.length k+dp)%cs.length:Nat):Int)/\cs[(hh cs.length k+dp)%cs.length]?=some z/\z.kind=2)/\
                                                                                                                                                                                                                                                                                                                                                                           [Value.pointer (some (ad r1 0)),.i 0,.bool false,.u ((cs.length:Int) -1),.i Nk,.u (((hh cs.length k+(d+1))%cs.length:Nat):Int)]=[.p (some (ad r1 0)),.i 0,.bool false,.u ((cs.length:Int) -1),.i put,.u (((hh cs.length k+d')%cs.length:Nat):Int)]/\St W w4 (Sep.pt r1 (nm k)::L))/\
                                                                                                                                                                                                                                                                                                                                                                           cs.length-((((hh cs.length k+(d+1))%cs.length:Nat):Int).toNat+cs.length-hh cs.length k)%cs.length<cs.length-((((hh cs.length k+d)%cs.length:Nat):Int).toNat+cs.length-hh cs.length k)%cs.length):=by
  intro r2 Nk k0 k1 hp';have NN:=F9.succ hy k0 k1;have SN:d+1<cs.length:=by
   by_cases hc:d+1<cs.length
   ·exact hc
   ·exact absurd (λj hj=>NN.nf j (by omega)) λhh=>ht.free _ hh
  refine T.drop λw3 h3=>⟨⟨d+1,Nk,SN,NN,?_,rfl,h3⟩,?_⟩
  ·rcases hp' with rfl|⟨rfl,h2k⟩
   ·exact K6.imp id λ⟨dp,z,g1,g2,g3,g4⟩=>⟨dp,z,by omega,g2,g3,g4⟩
   ·exact .inr ⟨d,y,by omega,rfl,hy,h2k⟩
  ·rw[adR,adR,CM hhl hd,CM hhl SN];omega
 apply ws;intros;rename_i r2;unfold bI.j1 bI.j2 bI.j3;simp only[M0 ht.pow,ewr];refine bB (λg0=>?_) (λg0=>?_)
 ·have k0:y.kind=0:=by simpa using g0
  refine bB (λg1=>?_) (λg1=>?_)
  ·refine T.drop (T.drop (h2 _ ⟨⟨y,d,hy,by omega,hd,rfl,F9.nf⟩,F9.yq ht hd hy k0⟩))
  ·have g2: ¬put<0:=by simpa using g1
   apply ws;intros;refine ki (by simpa using k0) ?_;rcases K6 with rfl|⟨dp,z,q1,rfl,q3,q4⟩
   ·omega
   ·refine T.drop (T.drop (h2 _ ⟨⟨z,dp,q3,by omega,by omega,rfl,λj hj=>F9.nf j (by omega)⟩,F9.yq ht hd hy k0⟩))
 ·have k0:y.kind≠0:=by simpa using g0
  apply ws;intros;refine dX (by simpa using k0) ?_;apply ws;intros;refine bB (λg1=>?_) (λg1=>?_)
  ·have k2:y.kind=2:=by simpa using g1
   refine bB (λg2=>?_) (λg2=>?_)
   ·exact next r2 _ k0 (by omega) (.inr ⟨rfl,k2⟩)
   ·apply ws;intros;refine dX (by rw[k2];rfl) ?_;apply ws;intros;exact next r2 put k0 (by omega) (.inl rfl)
  ·have k1:y.kind=1:=by
    have:=ht.kinds y ml;have:y.kind≠2:=by simpa using g1
    omega
   apply ws;intros;refine ki (by rw[k1];rfl) ?_;apply ws;intros;refine bB (λg2=>?_) (λg2=>?_)
   ·refine T.drop (T.drop (h1 _ y hy k1 (by simpa using g2)))
   ·exact next r2 put k0 (λhh=>by simp[hh.2] at g2) (.inl rfl)
def zh{k:Nat}[i:Lc (ln t) L x f](h:T W L (K (.tuple ⟨[.i ((x.1 k).getD 0),.bool (x.1 k).isSome]⟩))):T W L (dY (some ⟨t,0,none⟩) (nm k) K):=by
 unfold dY;refine qE λr1=>dX rfl ?_;apply ws;intros;refine MG (t:=t) λb c cs lf R ht hc=>?_;have close:=hc b c cs x.2 lf x.1;have hL:f (x.1,x.2)=L:=i.same;rw[<-hL] at h;refine Eo ht (λi y hy hk he=>?_) (λp hp=>?_)
 ·apply ws;intros;have aZ:=(adS.1 hy).1;refine bR ⟨by omega,by omega⟩ λr hr=>?_;subst hr;rw[adR];refine MN ?_;refine Aq (r:=r) (j:=2) oE hy rfl ?_;apply ws;intros;have e:=ht.is i y hy hk;rw[he] at e;rw[e] at h;exact close _ ht (T.drop h)
 ·apply ws;intros;rw[ht.yq hp.none_] at h;exact close _ ht (T.drop h)
def Pe{k:Nat}[i:Lc (ln t) L x f](hu:x.2<=1000)(h:(x.1 k).isSome=true->T W (f (sj x.1 k none,x.2-1)) (K (.bool true)))(h0:x.1 k=none->T W L (K (.bool false))):T W L (ky (some ⟨t,0,none⟩) (nm k) K):=by
 unfold ky;refine qE λr1=>dX rfl ?_;apply ws;intros;refine MG (t:=t) λb c cs lf R ht hc=>?_;have hL:f (x.1,x.2)=L:=i.same;rw[<-hL] at h0;refine Eo ht (λi y hy hk he=>?_) (λp hp=>?_)
 ·apply ws;intros;have aZ:=(adS.1 hy).1;refine bR ⟨by omega,by omega⟩ λr hr=>?_;subst hr;rw[adR];have hN:=ht.pow.le;have yR:=ht.room;obtain⟨F8,hu1⟩:=ht.drop hy hk;rw[he] at F8;have e:=ht.is i y hy hk;rw[he] at e;refine cK rfl ?_;show T W _ (ga _ (kj ⟨0,0,2⟩) _);refine mW oE aZ (uO _) ?_;apply ws;intros;rw[aw (by omega),aw (by omega),show(x.2:Int) -1=((x.2-1:Nat):Int) by omega,show(lf:Int)+1=((lf+1:Nat):Int) by omega];have:=hc (some ⟨r,0,none⟩) c _ _ _ _ _ F8 (T.drop (h (by rw[e];rfl)));rw[aeV] at this;exact this
 ·apply ws;intros;exact hc _ _ _ _ _ _ _ ht (T.drop (h0 (ht.yq hp.none_)))
structure Part(cs:List Cell)(i:Nat)(m':Nat->Option Int)(u':Nat):Prop where
 to:∀(k:Nat)(v:Int),m' k=some v->∃(j:Nat)(y:Cell),j<i/\cs[j]?=some y/\y.kind=1/\y.key=k/\y.at_=v
 from_:∀(j:Nat)(y:Cell),j<i->cs[j]?=some y->y.kind=1->m' y.key=some y.at_
 n:u'=(cs.take i).countP (λc:Cell=>c.kind=1)
def Part.same{cs:List Cell}{m m':Nat->Option Int}{u lf u':Nat}(ht:TI cs m u lf)(hp:Part cs cs.length m' u'):m'=m/\u'=u:=by
 constructor
 ·funext k
  cases hm:m' k with
  |some v=>
   obtain⟨j,y,h1,h2,h3,h4,h5⟩:=hp.to k v hm;have:=ht.is j y h2 h3;rw[h4,h5] at this;exact this.symm
  |none=>
   cases hk:m k with
   |none=>rfl
   |some v=>
    obtain⟨j,y,h2,h3,h4⟩:=ht.has k v hk;have:=hp.from_ j y (adS.1 h2).1 h2 h3;rw[h4,hm] at this;cases this
 ·rw[hp.n,ad3,ht.used]
def tH(cs:List Cell)(p:Cell->Bool){i:Nat}{y:Cell}(hy:cs[i]?=some y):(cs.take (i+1)).countP p=(cs.take i).countP p+(if p y then 1 else 0):=by
 have aZ:=(adS.1 hy).1;rw[aeK aZ,List.countP_append];have:cs[i]=y:=by rw[adQ aZ] at hy;exact aea.inj hy
 rw[this,List.countP_singleton]
def UU{b:OA}{c u lf:Nat}{cs:List Cell}{m:Nat->Option Int}{R:LH}(ht:TI cs m u lf)(hu:u<=1000)
 (h:∀b' c' rz,TI rz m u 0->3* (u+1)<=rz.length->T W (Sep.pt t [.l b' rz.length c',.i (u:Int),.i 0]::own b' rz.length c' 4 (rz.flatMap kj)::R) (K (.tuple ⟨[]⟩))):
 T W (Sep.pt t [.l b cs.length c,.i (u:Int),.i (lf:Int)]::own b cs.length c 4 (cs.flatMap kj)::R) (mw (some ⟨t,0,none⟩) K):=by
 unfold mw;have hN8:=ht.pow.ge;have hNl:=ht.pow.le;apply ws;intros;intro w hs;refine⟨λvs w=>∃n:Nat,Pow n/\n<=6* (u+1)+8/\vs=[.l b cs.length c,.i (n:Int)]/\St W w (Sep.pt t [.l b cs.length c,.i (u:Int),.i (lf:Int)]::own b cs.length c 4 (cs.flatMap kj)::R),
  λvs _=>match vs with|[_,.int _ n]=>3* (u+1) -n.toNat|_=>0,⟨8,⟨3,by decide,by decide,rfl⟩,by omega,rfl,hs⟩,?_⟩
 rintro sm qB sw n1 w2 ⟨n,hn,hnb,e,hs⟩;cases e
 refine T.at ?_ hs;have hn8:=hn.ge;apply ws;intros;rw[aw (show-9223372036854775808<=(u:Int)+1/\(u:Int)+1<=9223372036854775807 by omega),aw (by omega)];refine dO (λh1=>?_) (λh1=>?_)
 ·have h1:(n:Int)<3* ((u:Int)+1):=h1;rw[aw (by omega)];refine λw3 h3=>⟨⟨n* 2,?_,by omega,by rw[show(n:Int)* 2=((n* 2:Nat):Int) by omega],h3⟩,?_⟩
  ·obtain⟨j,j1,j2,j3⟩:=hn;refine⟨j+1,by omega,?_,by rw[Nat.pow_succ,j3]⟩;by_cases hj:j+1<=20
   ·exact hj
   ·have:j=20:=by omega
    subst this;have:n=1048576:=by rw[j3]
    omega
  ·show 3* (u+1) -((n:Int)* 2).toNat<3* (u+1) -(n:Int).toNat;omega
 have h1: ¬(n:Int)<3* ((u:Int)+1):=h1;refine DL ⟨by omega,by omega,by omega,by omega⟩ λr=>?_;rw[adR,nB (g:=kj) (z:=⟨0,0,0⟩) (zs:=[.u 0,.u 0,.i 0,.int .u8 0]) rfl];show T W (own (some ⟨r,0,none⟩) n n 4 ((ad6 n (⟨0,0,0⟩:Cell)).flatMap kj)::_) _;apply ws;intros;intro w4 hs;refine⟨λvs w=>∃(i:Nat)(rz:List Cell)(m':Nat->Option Int)(u':Nat),i<=cs.length/\rz.length=n/\TI rz m' u' 0/\Part cs i m' u'/\vs=[.l b cs.length c,.i (cs.length:Int),.i (i:Int)]/\
                                                                                                St W w (own (some ⟨r,0,none⟩) n n 4 (rz.flatMap kj)::Sep.pt t [.l (some ⟨r,0,none⟩) n n,.i (u:Int),.i 0]::own b cs.length c 4 (cs.flatMap kj)::R),
  λvs _=>match vs with|[_,_,.int _ i]=>cs.length-i.toNat|_=>0,
  ⟨0,ad6 n ⟨0,0,0⟩,λ_=>none,0,by omega,aeX,TI.new hn,⟨(λk v hh=>by cases hh),(λj y hj=>by omega),by simp⟩,rfl,hs⟩,?_⟩
 rintro yD xy xD n3 n4 w5 ⟨i,rz,m',u',hi,Hh,F8,hp,e,hs⟩;cases e
 refine T.at ?_ hs;refine dO (λg1=>?_) (λg1=>?_)
 ·have aZ:i<cs.length:=by omega
  have e5:=l9 i;have hy:=adQ aZ;generalize cs[i]=y at hy;have hut:u'+(if y.kind=1 then 1 else 0)<=u:=by
   have e1:=tH cs (λc:Cell=>c.kind=1) hy;have e2:(cs.take (i+1)).countP (λc:Cell=>c.kind=1)<=cs.countP (λc:Cell=>c.kind=1):=(List.take_sublist _ _).countP_le;rw[ht.used,e1,<-hp.n] at e2;simpa using e2
  refine bR ⟨by omega,by omega⟩ λrb Ul=>?_;subst Ul;rw[adR];refine dy oE hy ?_;apply ws;intros;rw[e5];refine bB (λg2=>?_) (λg2=>?_)
  ·have k1:y.kind=1:=by simpa using g2
   rw[if_pos k1] at hut;apply ws;intros;subst Hh;have kM:m' y.key=none:=by
    cases hm:m' y.key with
    |none=>rfl
    |some v=>
     obtain⟨j,z,q1,q2,q3,q4,q5⟩:=hp.to _ _ hm;have:=ht.one j i z y q2 hy q3 k1 q4;omega
   refine Eo F8 (λi2 z hz hk he=>?_) (λp Lg=>?_)
   ·have:=F8.is i2 z hz hk;rw[he,kM] at this;cases this
   apply ws;intros;obtain⟨z,d,hz,Ub,_⟩:=Lg.place;have K8:=(adS.1 hz).1;refine oX ⟨by omega,by omega⟩ ?_;rw[adR];apply ws;intros;refine mW oE K8 (uO _) ?_;have H0:=F8.put (v:=y.at_) Lg hz (by omega);have hz2:z.kind≠2:=λhh=>by
    have:=List.countP_eq_zero.1 F8.left z (aei hz);simp[hh] at this
   rw[if_neg hz2] at H0;have ey:(⟨y.key,y.at_,1⟩:Cell)=y:=by rw[<-k1]
   rw[ey] at H0;refine T.drop λw6 h6=>⟨⟨i+1,rz.set p y,sj m' y.key (some y.at_),u'+1,aZ,aeV,H0,⟨?_,?_,?_⟩,rfl,h6⟩,by show cs.length-((i+1:Nat):Int).toNat<cs.length-(i:Int).toNat;omega⟩
   ·intro k v hk;unfold sj at hk;by_cases ek:k=y.key
    ·rw[if_pos ek] at hk;cases hk;exact⟨i,y,by omega,hy,k1,ek.symm,rfl⟩
    ·rw[if_neg ek] at hk;obtain⟨j,z,q1,q2⟩:=hp.to k v hk;exact⟨j,z,by omega,q2⟩
   ·intro j z hj Po Ub;unfold sj;by_cases ek:z.key=y.key
    ·have:=ht.one j i z y Po hy Ub k1 ek;subst this;rw[hy] at Po;cases Po
     rw[if_pos rfl]
    ·rw[if_neg ek];refine hp.from_ j z ?_ Po Ub;by_cases ej:j=i
     ·subst ej;rw[hy] at Po;cases Po;exact absurd rfl ek
     ·omega
   ·rw[tH cs _ hy,hp.n];simp[k1]
  ·have k1: ¬y.kind=1:=by simpa using g2
   refine T.drop λw6 h6=>⟨⟨i+1,rz,m',u',aZ,Hh,F8,⟨?_,?_,?_⟩,rfl,h6⟩,by show cs.length-((i+1:Nat):Int).toNat<cs.length-(i:Int).toNat;omega⟩
   ·intro k v hk;obtain⟨j,z,q1,q2⟩:=hp.to k v hk;exact⟨j,z,by omega,q2⟩
   ·intro j z hj Po Ub;refine hp.from_ j z ?_ Po Ub;by_cases ej:j=i
    ·subst ej;rw[hy] at Po;cases Po;exact absurd Ub k1
    ·omega
   ·rw[tH cs _ hy,hp.n];simp[k1]
 ·have he:i=cs.length:=by omega
  subst he;obtain⟨rfl,rfl⟩:=hp.same ht;subst Hh;have:=h (some ⟨r,0,none⟩) rz.length rz F8 (by omega);exact λw hs=>this w ((hs.perm (aeh.swap _ _ _)).focus (k:=2) rfl).drop
def FJ{b:OA}{c u lf k:Nat}{v:Int}{cs:List Cell}{m:Nat->Option Int}{R:LH}{r1:Nat}{g:LV->LH}[i:Lc (Sep.pt r1) R (nm k) g](ht:TI cs m u lf)(hr:4* (u+lf+1)<=3* cs.length)(hk:m k=none)
 (h:∀b' c' rz Hd,TI rz (sj m k (some v)) (u+1) Hd->T W (Sep.pt t [.l b' rz.length c',.i ((u+1:Nat):Int),.i (Hd:Int)]::own b' rz.length c' 4 (rz.flatMap kj)::R) (K (.bool true))):
 T W (Sep.pt t [.l b cs.length c,.i (u:Int),.i (lf:Int)]::own b cs.length c 4 (cs.flatMap kj)::R) (bZ.j1 K r1 (some ⟨t,0,none⟩) v):=by
 unfold bZ.j1;apply ws;intros;refine Eo ht (λi2 z hz XI he=>?_) (λp Lg=>?_)
 ·have:=ht.is i2 z hz XI;rw[he,hk] at this;cases this
 obtain⟨z,d,hz,Ub,_⟩:=Lg.place;have K8:=(adS.1 hz).1;have hN:=ht.pow.le;apply ws;intros;refine bR ⟨by omega,by omega⟩ λr hr=>?_;subst hr;rw[adR];simp only[dW,adU];refine Aq (r:=r) (j:=3) oE hz rfl ?_;have H0:=ht.put (v:=v) Lg hz hr;have WT:∀Hd:Nat,Hd=(if z.kind=2 then lf-1 else lf)->T W (Sep.pt t [.l (some ⟨r,0,none⟩) cs.length c,.i (u:Int),.i (Hd:Int)]::own (some ⟨r,0,none⟩) cs.length c 4 (cs.flatMap kj)::R) (bZ.j2 K (some ⟨t,0,none⟩) r1 (p:Int) v):=by
  intro Hd hlf;unfold bZ.j2;apply ws;intros;refine oX ⟨by omega,by omega⟩ ?_;rw[adR];refine cK rfl ?_;show T W _ (ga _ (kj ⟨k,v,1⟩) _);refine mW oE K8 (uO _) ?_;apply ws;intros;have yR:=ht.room;rw[aw (by omega),show(u:Int)+1=((u+1:Nat):Int) by omega];have:=h (some ⟨r,0,none⟩) c (cs.set p ⟨k,v,1⟩) Hd (by rw[hlf];exact H0);rw[aeV] at this;exact this
 have yR:=ht.room;apply ws;intros;refine bB (λg2=>?_) (λg2=>?_)
 ·have k2:z.kind=2:=by simpa using g2
  have h1:1<=lf:=by
   rw[<-ht.left];exact List.countP_pos_iff.2 ⟨z,aei hz,by simpa using k2⟩
  apply ws;intros;rw[aw (by omega),show(lf:Int) -1=((lf-1:Nat):Int) by omega];exact WT (lf-1) (by rw[if_pos k2])
 ·have k2: ¬z.kind=2:=by simpa using g2
  exact WT lf (by rw[if_neg k2])
def Ki{k:Nat}{v:Int}[i:Lc (ln t) L x f](hu:x.2<=1000)(hk:x.1 k=none)(h:T W (f (sj x.1 k (some v),x.2+1)) (K (.bool true))):T W L (bZ (some ⟨t,0,none⟩) (nm k) v K):=by
 refine MG (t:=t) λb c cs lf R ht hc=>?_;unfold bZ;refine qE λr1=>dX rfl ?_;refine T.aal ?_;have hN:=ht.pow.le;have yR:=ht.room;have fin:∀b' c' rz Hd,TI rz (sj x.1 k (some v)) (x.2+1) Hd->T W (Sep.pt t [.l b' rz.length c',.i ((x.2+1:Nat):Int),.i (Hd:Int)]::own b' rz.length c' 4 (rz.flatMap kj)::Sep.pt r1 (nm k)::R) (K (.bool true)):=
  λb' c' rz Hd F8 w hs=>hc _ _ _ _ _ _ _ F8 h w (hs.focus (k:=2) rfl).drop
 have Ue:adN.wrap ((x.2:Int)+lf)=(x.2:Int)+lf:=aw (by omega);have Xh:adN.wrap ((x.2:Int)+lf+1)=(x.2:Int)+lf+1:=aw (by omega);have Xg:adN.wrap (4* ((x.2:Int)+lf+1))=4* ((x.2:Int)+lf+1):=aw (by omega);have hw4:adN.wrap (3* (cs.length:Int))=3* (cs.length:Int):=aw (by omega);apply ws;intros;rw[Ue,Xh,Xg,hw4];refine dO (λg=>?_) (λg=>?_)
 ·refine UU ht hu λb' c' rz F8 Hh=>?_;apply ws;intros;exact FJ (lf:=0) F8 (by omega) hk fin
 ·have:=g;exact FJ ht (by omega) hk fin
def Tb(h:∀t,T W (ln t (λ_=>none,0)::L) (K (.p (some ⟨t,0,none⟩)))):T W L (rM K):=by
 unfold rM;refine DL ⟨by decide,by decide,by decide,by decide⟩ λr=>?_;rw[show((8:Int).toNat)=8 from rfl,nB (g:=kj) (z:=⟨0,0,0⟩) (zs:=[.u 0,.u 0,.i 0,.int .u8 0]) rfl];apply ws;intros;rename_i r1;refine λw hs=>h r1 w ?_;exact St.nM (some ⟨r,0,none⟩,8,ad6 8 ⟨0,0,0⟩,0) (St.and_intro (TI.new ⟨3,by decide,by decide,rfl⟩) (St.join hs))
end
section
variable {W:World} {L:LH} {K:VK} {X:WK} {α:Type} {r o:Nat} {pre post:LV} {g:α->LV} {e:Nat} {l:List α} {f:List α->LH}
def eW{e:Nat}(h:T W (own none 0 0 e []::L) X):T W L X:=λw hs=>h w (hs.push (oM e))
def gY{b:OA}{n c bytes r1:Nat}{zero:LV}{x:α}{ys:LV}{f:HP->LH}{f1:LV->LH}{K:OA->Nat->Nat->WK}[i:oS b n c L e (l.flatMap g) f][j:Lc (Sep.pt r1) L ys f1](hy:ys=g x)(hg:(g x).length=e)(hz:zero.length=e)
 (hb:(n+1)* bytes<=140737488355328)(hm:n+1<=9223372036854775807)(h1:∀v∈g x,v.oneCell'=true)(h:∀b' c',T W (f (own b' (n+1) c' e ((l++[x]).flatMap g))) (K b' (n+1) c')):T W L (eS e bytes zero b n c (some ⟨r1,0,none⟩) 1 K):=by
 refine MU (ys:=ys) (by rw[hy];exact hg) hz hb (by rw[hy];exact h1) (λb' c'=>?_) hm;have:=h b' c';rw[aeN] at this;simpa [hy] using this
def AT{b:OA}{n c e i:Nat}{xs:LV}(hi:i<=n):∀h,own b n c e xs h->own b i c e (xs.take (i* e)) h:=λh=>by
 rintro⟨hl,h0|⟨r,sp,hb,qP,zt,hp⟩⟩
 ·obtain⟨rfl,rfl,rfl⟩:=h0;have:i=0:=by omega
  subst this;exact⟨by simp,.inl ⟨rfl,rfl,rfl⟩⟩
 ·have Wd:i* e<=n* e:=aeC e hi;refine⟨by rw[adV];omega,.inr ⟨r,xs.drop (i* e)++sp,hb,by omega,?_,?_⟩⟩
  ·rw[adT,ad2,zt,hl,Nat.sub_mul,Nat.sub_mul];have:n* e<=c* e:=aeC e qP;omega
  ·rw[<-adZ,aek];exact hp
def Dt{g:α->LV}(hg:∀x,(g x).length=e):∀(l:List α)(i:Nat),(l.flatMap g).take (i* e)=(l.take i).flatMap g
 |[],i=>by simp
 |x::l,0=>by simp
 |x::l,i+1=>by
  rw[aeE,List.take_succ_cons,aeE,<-Dt hg l i,show(i+1)* e=(g x).length+i* e by rw[hg,afe];omega,List.take_length_add_append]
def wg{b:OA}{n c i:Nat}{f:HP->LH}[j:oS b n c L e (l.flatMap g) f](hg:∀x,(g x).length=e)(hi:i<=n)(h:T W (f (own b i c e ((l.take i).flatMap g))) X):T W L X:=λw hs=>by
 obtain⟨k,hk,e1⟩:=j.at_;refine h w ?_;rw[e1,<-Dt hg];exact St.nE ((hs.focus hk).mono (AT hi)) hk
def vj{b:OA}{n c i:Nat}{K:OA->Nat->Nat->WK}(hi:i<=c)(h:T W L (K b i c)):T W L (nV b n c e none (some (i:Int)) K):=by
 unfold nV;refine cK ⟨by omega,by omega⟩ ?_;dsimp only;rw[Sn,adR];exact h
def mR{b:OA}{n c:Nat}{f:HP->LH}{xs:LV}[j:oS b n c L e xs f](h:n<=c->xs.length=n* e->T W L X):T W L X:=λw hs=>by
 obtain⟨k,hk,_⟩:=j.at_;obtain⟨hl,h0|⟨r,sp,hb,qP,_⟩⟩:=hs.lJ hk
 ·exact h (by omega) hl w hs
 ·exact h qP hl w hs
end
abbrev km:=Int×Int
def lu(p:km):LV:=[.i p.1,.i p.2]
def kz(p:km):(lu p).length=2:=rfl
instance{p:km}:Ln (lu p) 2:=⟨rfl⟩
instance{p:km}:Gt (lu p) 1 (.i p.2):=⟨rfl⟩
def pQ(p:km):∀v∈lu p,v.oneCell'=true:=λv h=>by simp[lu] at h;rcases h with rfl|rfl<;>rfl
instance{x1 x2:Value}{p:km}:Wr [x1,x2] 0 (lu p) (lu p):=⟨rfl,adW _,pQ p⟩
def pos(s:Int):List km->Nat
 |[]=>0
 |p::l=>if p.1<s then pos s l+1 else 0
def D0(s:Int):∀l:List km,pos s l<=l.length
 |[]=>adW _
 |p::l=>by unfold pos;split<;>simp;exact D0 s l
def oH(l:List km):Prop:=l.Pairwise λa b=>a.1<b.1
def HN(s:Int):∀(l:List km)(i:Nat),i<=l.length->(∀(j:Nat)(p:km),j<i->l[j]?=some p->p.1<s)->(∀(j:Nat)(p:km),i<=j->l[j]?=some p->s<=p.1)->i=pos s l
 |[],i,hi,_,_=>by simp at hi;subst hi;rfl
 |q::l,0,hi,h1,h2=>by
  unfold pos;rw[if_neg];have:=h2 0 q (adW _) rfl;omega
 |q::l,i+1,hi,h1,h2=>by
  unfold pos;rw[if_pos (h1 0 q (by omega) rfl),<-HN s l i (by simpa using hi) (λj p hj hp=>h1 (j+1) p (by omega) (by simpa using hp)) (λj p hj hp=>h2 (j+1) p (by omega) (by simpa using hp))]
def half{i j:Nat}(h:i+j<4611686018427387904):adN.wrap (shr .u64 (IntKind.u64.wrap (adN.wrap ((i:Int)+j))) 1)=(((i+j)/2:Nat):Int):=by
 have e0:adN.wrap ((i:Int)+j)=((i+j:Nat):Int):=by rw[aw (by omega)];omega
 rw[e0,oo (by omega)];unfold shr;have e:min (1:Int).toNat IntKind.u64.bits=1:=rfl;rw[e,Int.fdiv_eq_ediv_of_nonneg _ (by decide)];rw[aw (by omega)];omega
def xk(s:Int)(l:List km)(i:Nat):Bool:=match l[i]? with|some p=>decide (s<=p.1)|none=>true
section
variable {W:World} {L:LH} {K:VK} {X:WK} {r o:Nat} {l:List km}
def OV{n:Nat}{v:Value}(P:Nat->Bool)(hn:n<1099511627776)(SC:∀i j,i<=j->P i=true->P j=true)
 (X0:∀(i:Nat)(K:VK),i<n->T W L (K (.bool (P i)))->T W L (tr [(N.cX,cX.u)] v [.i (i:Int)] K))
 (h:∀i:Nat,i<=n->(∀j,j<i->P j=false)->(∀j,i<=j->j<n->P j=true)->T W L (K (.i (i:Int)))):T W L (qI (n:Int) v K):=by
 unfold qI;intro w hs;refine⟨λvs w=>∃i j:Nat,i<=j/\j<=n/\(∀k,k<i->P k=false)/\(∀k,j<=k->k<n->P k=true)/\vs=[.i 0,.i (i:Int),.i (j:Int)]/\St W w L,
  λvs _=>match vs with|[_,.int _ i,.int _ j]=>j.toNat-i.toNat|_=>0,⟨0,n,ad0 _,adW _,(λk hk=>by omega),(λk h1 h2=>by omega),rfl,hs⟩,?_⟩
 rintro n2 n3 n4 w2 ⟨i,j,Hj,hjn,hi,hj,e,hs⟩;cases e
 refine T.at ?_ hs;rw[half (by omega)];refine dO (λg=>?_) (λg=>?_)
 ·have aZ:i<j:=by omega
  refine cK (by decide) (X0 _ _ (by omega) ?_);refine pE (bB (λg2=>?_) (λg2=>?_))
  ·have p0:P ((i+j)/2)=false:=by simpa using g2
   have e1:adN.wrap ((((i+j)/2:Nat):Int)+1)=(((i+j)/2+1:Nat):Int):=by rw[aw (by omega)];omega
   rw[e1];refine λw3 h3=>⟨⟨(i+j)/2+1,j,by omega,hjn,λk hk=>?_,hj,rfl,h3⟩,by show(j:Int).toNat-(((i+j)/2+1:Nat):Int).toNat<(j:Int).toNat-(i:Int).toNat;omega⟩;cases hp:P k with
   |false=>rfl
   |true=>rw[SC k ((i+j)/2) (by omega) hp] at p0;cases p0
  ·have p1:P ((i+j)/2)=true:=by simpa using g2
   refine λw3 h3=>⟨⟨i,(i+j)/2,by omega,by omega,hi,λk hk _=>SC _ k hk p1,rfl,h3⟩,by show(((i+j)/2:Nat):Int).toNat-(i:Int).toNat<(j:Int).toNat-(i:Int).toNat;omega⟩
 ·have:i=j:=by omega
  subst this;exact h i hjn hi hj
def zM{s:Int}{cs:LV}{b:OA}{c:Nat}{f:LV->LH}{g:HP->LH}(hv:cs[o]?=some (.l b l.length c))(hr:oH l)(hl:l.length<1099511627776)[i:Lc (Sep.pt r) L cs f][j:oS b l.length c L 2 (l.flatMap lu) g](h:T W L (K (.i (pos s l:Int)))):T W L (iD (some ⟨r,o,none⟩) s K):=by
 unfold iD
 repeat' first|apply ws;intros|apply wb|with_reducible refine jM hv ?_|fail
 rename_i r1 r2;refine OV (xk s l) hl ?_ ?_ ?_
 ·intro i j Hj hi;unfold xk at *;by_cases hj:j<l.length
  ·have qC:i<l.length:=by omega
   rw[adQ qC] at hi;rw[adQ hj];simp only[decide_eq_true_eq] at *;by_cases e:i=j
   ·subst e;exact hi
   ·have:=aeW.1 hr i j qC hj (by omega);omega
  ·rw[aeR (by omega)]
 ·intro i K hi hK;show T W _ (cX (i:Int) (ad r1 0) (ad r2 0) K);unfold cX
  repeat' first|apply ws;intros|apply wb|with_reducible refine jM hv ?_|fail
  refine bR ⟨by omega,by omega⟩ λrb hb=>?_;subst hb;rw[adR];refine vk kz (adQ hi) rfl ?_;apply ws;intros;refine T.fin (T.dp hK) ?_;unfold xk;rw[adQ hi]
 ·intro i hi h1 h2;apply ws;intros;have e:i=pos s l:=HN s l i hi (λj p hj hp=>by
   have:=h1 j hj
   unfold xk at this
   rw[hp] at this
   simpa using this) (λj p hj hp=>by
   have:=h2 j hj (adS.1 hp).1
   unfold xk at this
   rw[hp] at this
   simpa using this)
  subst e;exact T.drop (T.drop h)
def Jt{s:Int}:∀{l:List km},(∀p∈l,p.1<s)->pos s l=l.length
 |[],_=>rfl
 |p::l,h=>by unfold pos;rw[if_pos (h p (by simp)),Jt λq hq=>h q (by simp[hq])];rfl
def DK{r o:Nat}{cs:LV}{v:Value}{u:Value}{f:LV->LH}[i:Lc (Sep.pt r) L cs f](hv:cs[o]?=some u)(h1:v.oneCell'=true)(h:T W (f (cs.set o v)) X):T W L (st ⟨r,o,none⟩ v X):=yB (adS.1 hv).1 h1 h
def pc{cs:LV}{o:Nat}{u v:Value}(hv:cs[o]?=some u):(cs.set o v)[o]?=some v:=by rw[aem,if_pos rfl,if_pos (adS.1 hv).1]
def tJ{b:OA}{n c i e:Nat}{K:OA->Nat->Nat->WK}(hi:i<=n)(h:T W L (K (tN b c i e) (n-i) (c-i))):T W L (nV b n c e (some (i:Int)) none K):=by
 unfold nV;refine cK ⟨by omega,by omega⟩ ?_;rw[adR];exact h
def Kf(w:World)(e:Nat)(b:OA):Src w 0 e b []:=⟨by simp,λa ha j v hj=>by simp at hj⟩
def WG{e n m:Nat}{b b':OA}{K:Nat->WK}(hm:min m n=0)(h:T W L (K 0)):T W L (Ov e b n b' m K):=λw hs=>by
 unfold Ov;rw[hm];exact⟨[],Kf w e b',λ_=>rfl,λ_=>h w hs,λa _=>⟨⟨by simp,λj hj=>by simp at hj⟩,h w hs⟩⟩
def TH{b b':OA}{n c e bytes:Nat}{zero:LV}{K:OA->Nat->Nat->WK}{xs:LV}{f:HP->LH}[i:oS b n c L e xs f](h:T W L (K b n c)):T W L (eS e bytes zero b n c b' 0 K):=
 mR (b:=b) λqP _ w hs=>⟨[],Kf w e b',λ_=>rfl,λ_=>⟨λa _=>⟨⟨by simp,λj hj=>by simp at hj⟩,h w hs⟩,λ_=>h w hs⟩,λaZ=>by omega⟩
section
variable {R:LH} {cs:LV} {b:OA} {c:Nat}
def T0{s a:Int}(hv:cs[o]?=some (.l b l.length c))(hr:oH l)(hl:l.length<1099511627)(hs:∀p∈l,p.1<s)
 (h:∀b' c',T W (Sep.pt r (cs.set o (.l b' (l.length+1) c'))::own b' (l.length+1) c' 2 ((l++[(s,a)]).flatMap lu)::R) (K (.bool true))):
 T W (Sep.pt r cs::own b l.length c 2 (l.flatMap lu)::R) (fA (some ⟨r,o,none⟩) s a K):=by
 unfold fA;refine tM ?_;refine zM hv hr (by omega) ?_;rw[Jt hs]
 repeat' first|apply ws;intros|apply wb|with_reducible refine jM hv ?_|fail
 refine dX (by simp) ?_;unfold fA.j1
 repeat' first|apply ws;intros|apply wb|with_reducible refine jM hv ?_|fail
 refine gY (x:=((0:Int),(0:Int))) rfl rfl rfl (by omega) (by omega) (pQ _) λb' c'=>?_
 repeat' first|apply ws;intros|apply wb|with_reducible first|refine DK hv rfl ?_|refine jM (pc hv) ?_|fail
 have e1:adN.wrap ((l.length:Int)+1)=((l.length+1:Nat):Int):=by rw[aw (by omega)];omega
 rw[e1];refine tJ (adW _) ?_
 repeat' first|apply ws;intros|apply wb|with_reducible refine jM (pc hv) ?_|fail
 refine tJ (by omega) ?_;refine WG (by omega) ?_
 repeat' first|apply ws;intros|apply wb|with_reducible first|refine tK (pc hv) ?_|refine jM (pc hv) ?_|fail
 refine mR (b:=b') λqP hlen=>?_;refine bR ⟨by omega,by omega⟩ λrb hb=>?_;subst hb;rw[adR];refine cK rfl ?_;show T W _ (ga _ (lu (s,a)) _);refine mW kz (by simp) (pQ _) ?_;have:=h (some ⟨rb,0,none⟩) c';rw[List.set_append_right _ _ (adW _)];simpa using T.drop this
def Qv{s a:Int}{l0:List km}(hv:cs[o]?=some (.l b l.length c))(hr:oH l)(hl:l.length<1099511627)(hs:l=l0++[(s,a)])
 (h:∀b' c',T W (Sep.pt r (cs.set o (.l b' l0.length c'))::own b' l0.length c' 2 (l0.flatMap lu)::R) (K (.bool true))):
 T W (Sep.pt r cs::own b l.length c 2 (l.flatMap lu)::R) (fG (some ⟨r,o,none⟩) s K):=by
 have hlen:l.length=l0.length+1:=by rw[hs];simp
 have hp:pos s l=l0.length:=by
  refine(HN s l l0.length (by omega) (λj p hj SB=>?_) (λj p hj SB=>?_)).symm
  ·have aZ:=(adS.1 SB).1;have:=aeW.1 hr j l0.length aZ (by omega) hj;rw[adQ aZ] at SB;rw[aea.inj SB] at this;have e:l[l0.length]=(s,a):=by simp[hs]
   rw[e] at this;exact this
  ·have aZ:=(adS.1 SB).1;have:j=l0.length:=by omega
   subst this;rw[hs] at SB;simp at SB;rw[<-SB];exact afq _
 have hg:l[l0.length]?=some (s,a):=by rw[hs];simp
 unfold fG;refine tM ?_;refine zM hv hr (by omega) ?_;rw[hp]
 repeat' first|apply ws;intros|apply wb|with_reducible refine jM hv ?_|fail
 refine dX (by simp;omega) ?_
 repeat' first|apply ws;intros|apply wb|with_reducible refine jM hv ?_|fail
 refine bR ⟨by omega,by omega⟩ λrb hb=>?_;subst hb;rw[adR];refine vk kz hg rfl ?_;apply ws;intros;unfold fG.j1;refine dX (by simp) ?_
 repeat' first|apply ws;intros|apply wb|with_reducible refine jM hv ?_|fail
 refine mR (b:=some ⟨rb,0,none⟩) λqP wQ=>?_;refine vj (by omega) ?_
 repeat' first|apply ws;intros|apply wb|with_reducible refine jM hv ?_|fail
 have e1:adN.wrap ((l0.length:Int)+1)=((l0.length+1:Nat):Int):=by rw[aw (by omega)];omega
 rw[e1];refine tJ (by omega) ?_;rw[hlen] at hv;rw[hlen,ae8];have et:l.take l0.length=l0:=by rw[hs];simp
 refine wg (b:=some ⟨rb,0,none⟩) (i:=l0.length) kz (by omega) ?_;rw[et];refine TH (b:=some ⟨rb,0,none⟩) ?_
 repeat' first|apply ws;intros|apply wb|with_reducible first|refine tK hv ?_|refine DK hv rfl ?_|fail
 exact h _ _
def qD(to:Int)(l:List km):Nat:=if to=0 then l.length else match l[pos to l]? with|some p=>if p.1=to then pos to l+1 else pos to l|none=>pos to l
def PS(to:Int)(l:List km):qD to l<=l.length:=by
 unfold qD;have:=D0 to l;split
 ·exact adW _
 ·split
  ·rename_i p hp;have:=(adS.1 hp).1;split<;>omega
  ·omega
def mE(from_ to:Int)(l:List km):List km:=(l.drop (pos from_ l)).take (qD to l-pos from_ l)
def Qg{m out:List km}{i:Nat}(hl:m.length=out.length)(hm:∀j,j<out.length->m[j]?=if j<i\/out.length-1-j<i then out[out.length-1-j]? else out[j]?)(hi:out.length<=2* i+1):m=out.reverse:=by
 apply afa;intro j;by_cases hj:j<out.length
 ·rw[hm j hj,List.getElem?_reverse hj];by_cases h:j<i\/out.length-1-j<i
  ·rw[if_pos h]
  ·rw[if_neg h];congr 1;omega
 ·rw[aeR (by omega),aeR (by simpa using hj)]
def Nt{from_ to:Int}{uL:Bool}{f:LV->LH}{g:HP->LH}(hv:cs[o]?=some (.l b l.length c))(hr:oH l)(hl:l.length<100000)[i:Lc (Sep.pt r) L cs f][j:oS b l.length c L 2 (l.flatMap lu) g]
 (h:∀b' c' out,out=(if uL then(mE from_ to l).reverse else mE from_ to l)->T W (own b' out.length c' 2 (out.flatMap lu)::L) (K (.l b' out.length c'))):T W L (dh (some ⟨r,o,none⟩) from_ to uL K):=by
 unfold dh;refine tM ?_
 repeat' first|apply ws;intros|apply wb|with_reducible refine jM hv ?_|fail
 refine zM hv hr (by omega) ?_
 repeat' first|apply ws;intros|apply wb|with_reducible refine tK hv ?_|fail
 have j1:T W L (dh.j1 K (pos from_ l:Int) (some ⟨r,o,none⟩) uL (qD to l:Int)):=by
  have hul:=PS to l;unfold dh.j1;refine eW (e:=2) ?_;intro w hs;refine⟨λvs w=>∃(k:Nat)(out:List km)(b':OA)(c':Nat),pos from_ l<=k/\(k<=qD to l\/k=pos from_ l)/\out=(l.drop (pos from_ l)).take (k-pos from_ l)/\out.length=k-pos from_ l/\
   vs=[.l none 0 0,.i (k:Int),.i (qD to l:Int),.l b' out.length c']/\St W w (own b' out.length c' 2 (out.flatMap lu)::L),
   λvs _=>match vs with|[_,.int _ k,.int _ n,_]=>n.toNat-k.toNat|_=>0,⟨pos from_ l,[],none,0,adW _,.inr rfl,by simp,by simp,rfl,hs⟩,?_⟩
  rintro sm qB sw n5 n6 b' pn c' w2 ⟨k,out,b0,c0,Pw,ru,tA,hol,e,hs⟩;cases e
  refine T.at ?_ hs;have Mb:=D0 from_ l;refine dO (λg1=>?_) (λg1=>?_)
  ·have aZ:k<qD to l:=by omega
   have e5:=l9 k;have hg:=adQ (show k<l.length by omega);generalize l[k]=p at hg
   repeat' first|apply ws;intros|apply wb|with_reducible refine jM hv ?_|fail
   refine bR ⟨by omega,by omega⟩ λrb hb=>?_;subst hb;rw[adR,e5];refine dy kz hg ?_;apply ws;intros;refine gY (x:=p) rfl rfl rfl (by omega) (by omega) (pQ _) λb2 c2=>?_;refine T.drop λw3 h3=>⟨⟨k+1,out++[p],b2,c2,by omega,.inl aZ,?_,by simp;omega,by simp,by simpa using h3⟩,by show(qD to l:Int).toNat-((k+1:Nat):Int).toNat<(qD to l:Int).toNat-(k:Int).toNat;omega⟩;rw[show k+1-pos from_ l=(k-pos from_ l)+1 by omega,ad',<-tA,ae6,show pos from_ l+(k-pos from_ l)=k by omega,hg]
   rfl
  ·have gj:qD to l<=k:=by omega
   have Xq:out=mE from_ to l:=by
    rw[tA];unfold mE;rcases ru with h2|h2
    ·rw[show k=qD to l by omega]
    ·rw[h2,ae8,show qD to l-pos from_ l=0 by omega]
   refine bB (λg2=>?_) (λg2=>?_)
   ·subst g2;intro w2 hs;refine⟨λvs w=>∃(i:Nat)(m:List km),i<=out.length/\m.length=out.length/\(∀j,j<out.length->m[j]?=if j<i\/out.length-1-j<i then out[out.length-1-j]? else out[j]?)/\
     vs=[.l none 0 0,.l b' out.length c',.i (i:Int),.i ((out.length:Int) -1-i)]/\St W w (own b' out.length c' 2 (m.flatMap lu)::L),
     λvs _=>match vs with|[_,_,.int _ k,_]=>out.length-k.toNat|_=>0,⟨0,out,ad0 _,rfl,λj hj=>by simp,by rw[aw (by omega)];simp,hs⟩,?_⟩
    rintro Zt WO VT sb7 Zq sc7 n7 n8 w5 ⟨i,m,hi,Gf,hm,e,hs⟩;cases e
    refine T.at ?_ hs;refine dO (λg3=>?_) (λg3=>?_)
    ·have aZ:(i:Int)<(out.length:Int) -1-i:=g3;obtain⟨k2,aaG⟩:∃k2:Nat,k2=out.length-1-i:=⟨_,rfl⟩;have ek:(out.length:Int) -1-i=(k2:Int):=by omega
     have e5:=l9 i;have e6:adN.wrap ((k2:Int) -1)=(out.length:Int) -1-((i+1:Nat):Int):=by rw[aw (by omega)];omega
     have g4:=adQ (show i<m.length by omega);have g5:=adQ (show k2<m.length by omega);have g6:=hm i (by omega);have g7:=hm k2 (by omega);rw[if_neg (by omega)] at g6;rw[if_neg (by omega)] at g7;generalize m[i]=x at g4;generalize m[k2]=y at g5;rw[ek,e5,e6];apply ws;intros;refine bR ⟨by omega,by omega⟩ λrb hb=>?_;subst hb;rw[adR];refine dy kz g5 ?_;refine oX ⟨by omega,by omega⟩ ?_;rw[adR];refine dy kz g4 ?_;refine oX ⟨by omega,by omega⟩ ?_;rw[adR];refine cK rfl (mW kz (by omega) (pQ _) ?_);refine oX ⟨by omega,by omega⟩ ?_;rw[adR];refine cK rfl (mW kz (by simp;omega) (pQ _) ?_);refine λw3 h3=>⟨⟨i+1,(m.set i y).set k2 x,by omega,by simp[Gf],λj hj=>?_,rfl,h3⟩,by show out.length-((i+1:Nat):Int).toNat<out.length-(i:Int).toNat;omega⟩;rw[aem,aem];by_cases q1:k2=j
     ·subst q1;rw[if_pos rfl,if_pos (by simp;omega),if_pos (by omega),show out.length-1-k2=i by omega,<-g6,g4]
     ·rw[if_neg q1];by_cases q2:i=j
      ·subst q2;rw[if_pos rfl,if_pos (by omega),if_pos (by omega),<-aaG,<-g7,g5]
      ·rw[if_neg q2,hm j hj];by_cases q3:j<i\/out.length-1-j<i
       ·rw[if_pos q3,if_pos (by omega)]
       ·rw[if_neg q3,if_neg (by omega)]
    ·have adD: ¬(i:Int)<(out.length:Int) -1-i:=g3;have:=Qg Gf hm (by omega);subst this;have:=h b' c' out.reverse (by rw[if_pos rfl,Xq]);rw[aeM] at this;exact this
   ·subst g2;exact h b' c' out (by rw[if_neg (by decide),Xq])
 refine bB (λg1=>?_) (λg1=>?_)
 ·have Pp:to≠0:=by simpa using g1
  refine zM hv hr (by omega) ?_;have hpt:=D0 to l
  repeat' first|apply ws;intros|apply wb|with_reducible refine jM hv ?_|fail
  unfold qD at j1;rw[if_neg Pp] at j1;refine dO (λg2=>?_) (λg2=>?_)
  ·have aZ:pos to l<l.length:=by omega
   have hg:=adQ aZ;generalize l[pos to l]=p at hg;have e5:adN.wrap ((pos to l:Int)+1)=((pos to l+1:Nat):Int):=by rw[aw (by omega)];omega
   rw[hg] at j1;dsimp only at j1
   repeat' first|apply ws;intros|apply wb|with_reducible refine jM hv ?_|fail
   rw[e5];refine bR ⟨by omega,by omega⟩ λrb hb=>?_;subst hb;rw[adR];refine vk kz hg rfl ?_;apply ws;intros;refine bB (λg3=>?_) (λg3=>?_)
   ·rw[if_pos (by simpa using g3)] at j1;exact j1
   ·rw[if_neg (by simpa using g3)] at j1;exact j1
  ·have gj:l.length<=pos to l:=by omega
   rw[aeR gj] at j1;exact j1
 ·have Pp:to=0:=by simpa using g1
  unfold qD at j1;rw[if_pos Pp] at j1;exact j1
end
end
structure Item where
 due:Int
 ae:Int
 id:Nat
def dG(x:Item):LV:=[.i x.due,.i x.ae]++nm x.id
def eX(x:Item):(dG x).length=4:=rfl
instance{x:Item}:Ln (dG x) 4:=⟨rfl⟩
instance{x:Item}:Gt (dG x) 0 (.i x.due):=⟨rfl⟩
instance{x:Item}:Gt (dG x) 1 (.i x.ae):=⟨rfl⟩
def my(x:Item):∀v∈dG x,v.oneCell'=true:=k8 (λv h=>by simp at h;rcases h with rfl|rfl<;>rfl) (kA _)
instance{x1 x2 x3 x4:Value}{p:Item}:Wr [x1,x2,x3,x4] 0 (dG p) (dG p):=⟨rfl,adW _,my p⟩
instance{p:Item}:Sub (dG p) 0 4 (dG p):=⟨rfl,λj v h=>by rw[adU];exact h⟩
def bf(a b:Item):Prop:=a.due<b.due\/a.due=b.due/\a.ae<b.ae
instance(a b:Item):Decidable (bf a b):=by unfold bf;infer_instance
def J5{a b:Item}(h:bf a b): ¬bf b a:=by unfold bf at *;omega
def GR{a b c:Item}(h:bf a b)(g:bf b c):bf a c:=by unfold bf at *;omega
def A7{a b c:Item}(h: ¬bf a b)(g: ¬bf b c): ¬bf a c:=by unfold bf at *;omega
def Nw{a b c:Item}(h: ¬bf a c)(g:bf b c): ¬bf a b:=λhh=>h (GR hh g)
def IF(a:Item): ¬bf a a:=by unfold bf;omega
def par(j:Nat):Nat:=(j-1)/2
def NB(h:List Item)(i j:Nat):Prop:=∀x y,h[i]?=some x->h[j]?=some y-> ¬bf x y
def qH(h:List Item):Prop:=∀j,0<j->NB h j (par j)
def HU(h:List Item)(i:Nat):Prop:=(∀j,0<j->j≠i->NB h j (par j))/\(∀j,0<j->par j=i->0<i->NB h j (par i))
def HD(h:List Item)(i:Nat):Prop:=(∀j,0<j->par j≠i->NB h j (par j))/\(∀j,0<j->par j=i->0<i->NB h j (par i))
def Kids(h:List Item)(i:Nat):Prop:=∀j,0<j->par j=i->NB h j i
def qH.hu{h:List Item}(hh:qH h)(i:Nat):HU h i:=by
 refine⟨λj h0 _=>hh j h0,λj h0 hp hi x y hx hy=>?_⟩;have aZ:j<h.length:=(adS.1 hx).1;have Le:i<h.length:=by unfold par at hp;omega
 have a1:=hh j h0 x _ hx (by rw[hp];exact adQ Le);exact A7 a1 (hh i hi _ y (adQ Le) hy)
def HU.heap{h:List Item}{i:Nat}(hu:HU h i)(hx:i=0\/NB h i (par i)):qH h:=λj h0=>by
 by_cases e:j=i
 ·subst e;rcases hx with hx|hx
  ·omega
  ·exact hx
 ·exact hu.1 j h0 e
def HD.heap{h:List Item}{i:Nat}(hd:HD h i)(hk:Kids h i):qH h:=λj h0=>by
 by_cases e:par j=i
 ·rw[e];exact hk j h0 e
 ·exact hd.1 j h0 e
def P4(h:List Item)(i k:Nat)(x y:Item):List Item:=(h.set i y).set k x
def I'(h:List Item)(i k:Nat)(x y:Item):(P4 h i k x y).length=h.length:=by simp[P4]
section
variable {h:List Item} {i k:Nat} {x y:Item}
def Ja(hx:h[i]?=some x)(hy:h[k]?=some y)(NW:i≠k)(j:Nat):(P4 h i k x y)[j]?=if j=i then some y else if j=k then some x else h[j]?:=by
 have l1:=(adS.1 hx).1;have l2:=(adS.1 hy).1;unfold P4;rw[aem,aem];by_cases e1:k=j
 ·subst e1;rw[if_pos rfl,if_pos (by simpa using l2),if_neg (by omega),if_pos rfl]
 ·rw[if_neg e1];by_cases e2:i=j
  ·subst e2;rw[if_pos rfl,if_pos l1,if_pos rfl]
  ·rw[if_neg e2,if_neg (by omega),if_neg (by omega)]
def ux:∀{h:List Item} {i:Nat} {x y:Item},h[i]?=some x->(x::h.set i y).Perm (y::h)
 |[],i,x,y,hx=>by simp at hx
 |a::h,0,x,y,hx=>by simp at hx;subst hx;exact aeh.swap _ _ _
 |a::h,i+1,x,y,hx=>by
  have ih:=ux (y:=y) (show h[i]?=some x by simpa using hx);rw[ae5];exact(aeh.swap _ _ _).trans ((ih.cons a).trans (aeh.swap _ _ _))
def Fk(hx:h[i]?=some x)(hy:h[k]?=some y)(NW:i≠k):(P4 h i k x y).Perm h:=by
 have h1:=ux (y:=y) hx;have hy2:(h.set i y)[k]?=some y:=by rw[aem,if_neg NW];exact hy
 have h2:=ux (y:=x) hy2;exact(List.perm_cons y).1 (h2.trans h1)
def HU.step(hu:HU h i)(hi:0<i)(hx:h[i]?=some x)(hy:h[par i]?=some y)(hb:bf x y):HU (P4 h i (par i) x y) (par i):=by
 have NW:i≠par i:=by unfold par;omega
 have g:=Ja hx hy NW
 constructor
 ·intro j h0 hj a b ha nu;rw[g] at ha nu;by_cases e1:j=i
  ·subst e1;rw[if_pos rfl] at ha;cases ha
   rw[if_neg (λh=>NW h.symm),if_pos rfl] at nu;cases nu
   exact J5 hb
  ·rw[if_neg e1,if_neg hj] at ha;by_cases e2:par j=i
   ·rw[if_pos e2] at nu;cases nu
    exact hu.2 j h0 e2 hi a y ha hy
   ·rw[if_neg e2] at nu;by_cases e3:par j=par i
    ·rw[if_pos e3] at nu;cases nu
     exact Nw (hu.1 j h0 e1 a y ha (by rw[e3];exact hy)) hb
    ·rw[if_neg e3] at nu;exact hu.1 j h0 e1 a b ha nu
 ·intro j h0 hp He a b ha nu;have n1:par (par i)≠i:=by unfold par;omega
  have n2:par (par i)≠par i:=by unfold par at *;omega
  rw[g] at ha nu;rw[if_neg n1,if_neg n2] at nu;have top:=hu.1 (par i) He (λh=>NW h.symm) y b hy nu;by_cases e1:j=i
  ·subst e1;rw[if_pos rfl] at ha;cases ha
   exact top
  ·have n3:j≠par i:=by intro h;rw[h] at hp;exact n2 hp
   rw[if_neg e1,if_neg n3] at ha;exact A7 (hu.1 j h0 e1 a y ha (by rw[hp];exact hy)) top
def HD.step(hd:HD h i)(hk:par k=i)(h0k:0<k)(hx:h[i]?=some x)(hy:h[k]?=some y)(hb:bf y x)(uW:∀j,0<j->par j=i->NB h j k):HD (P4 h i k x y) k:=by
 have NW:i≠k:=by intro h;unfold par at hk;omega
 have g:=Ja hx hy NW
 constructor
 ·intro j h0 hj a b ha nu;rw[g] at ha nu;by_cases e1:j=i
  ·subst e1;rw[if_pos rfl] at ha;cases ha
   have n1:par j≠j:=by unfold par;omega
   rw[if_neg n1,if_neg hj] at nu;exact hd.2 k h0k hk h0 y b hy nu
  ·rw[if_neg e1] at ha;by_cases e2:j=k
   ·subst e2;rw[if_pos rfl] at ha;cases ha
    rw[if_pos hk] at nu;cases nu
    exact J5 hb
   ·rw[if_neg e2] at ha;by_cases e3:par j=i
    ·rw[if_pos e3] at nu;cases nu
     exact uW j h0 e3 a y ha hy
    ·rw[if_neg e3,if_neg hj] at nu;exact hd.1 j h0 e3 a b ha nu
 ·intro j h0 hp hk0 a b ha nu;rw[g] at ha nu;rw[if_pos hk] at nu;cases nu
  have n1:j≠i:=by intro h;unfold par at hp hk;omega
  have n2:j≠k:=by intro h;unfold par at hp;omega
  rw[if_neg n1,if_neg n2] at ha;exact hd.1 j h0 (by rw[hp];exact λh=>NW h.symm) a y ha (by rw[hp];exact hy)
def qH.first(hh:qH h)(hx:h[0]?=some x):∀y∈h,¬bf y x:=by
 have key:∀(n j:Nat),j<=n->∀y:Item,h[j]?=some y-> ¬bf y x:=by
  intro n
  induction n with
  |zero=>intro j hj y hy;have:j=0:=by omega
         subst this;rw[hx] at hy;cases hy;exact IF x
  |succ n ih=>
   intro j hj y hy;by_cases h0:j=0
   ·subst h0;rw[hx] at hy;cases hy;exact IF x
   ·have aZ:=(adS.1 hy).1;have hp:par j<h.length:=by unfold par;omega
    exact A7 (hh j (by omega) y _ hy (adQ hp)) (ih (par j) (by unfold par;omega) _ (adQ hp))
 intro y hy;obtain⟨j,hj⟩:=ae' hy;exact key j j (adW _) y hj
def I2{z:Item}{n:Nat}(hh:qH h)(hl:h.length=n+1)(hi:i<n)(hz:h[n]?=some z):
 (i=0\/NB ((h.set i z).take n) i (par i))->HD ((h.set i z).take n) i:=by
 have g:∀j,((h.set i z).take n)[j]?=if j<n then(if j=i then some z else h[j]?) else none:=by
  intro j;rw[afg];by_cases h1:j<n
  ·rw[if_pos h1,if_pos h1,aem];by_cases h2:i=j
   ·subst h2;rw[if_pos rfl,if_pos (by omega),if_pos rfl]
   ·rw[if_neg h2,if_neg (by omega)]
  ·rw[if_neg h1,if_neg h1]
 have old:∀j a,j≠i->((h.set i z).take n)[j]?=some a->h[j]?=some a:=by
  intro j a hj ha;rw[g] at ha;rw[if_neg hj] at ha;split at ha
  ·exact ha
  ·cases ha
 intro ht;refine⟨λj h0 hp a b ha hb=>?_,λj h0 hp SJ a b ha hb=>?_⟩
 ·by_cases e:j=i
  ·subst e;rcases ht with ht|ht
   ·omega
   ·exact ht a b ha hb
  ·exact hh j h0 a b (old j a e ha) (old _ b hp hb)
 ·have n1:j≠i:=by intro h;unfold par at hp;omega
  have n2:par i≠i:=by unfold par;omega
  exact(hh.hu i).2 j h0 hp SJ a b (old j a n1 ha) (old _ b n2 hb)
def PT{z:Item}{n:Nat}(hh:qH h)(hl:h.length=n+1)(hi:i<n)(hz:h[n]?=some z)(h0i:0<i){y:Item}(hy:h[par i]?=some y)(hb:bf z y):
 HU ((h.set i z).take n) i/\Kids ((h.set i z).take n) i:=by
 have g:∀j,((h.set i z).take n)[j]?=if j<n then(if j=i then some z else h[j]?) else none:=by
  intro j;rw[afg];by_cases h1:j<n
  ·rw[if_pos h1,if_pos h1,aem];by_cases h2:i=j
   ·subst h2;rw[if_pos rfl,if_pos (by omega),if_pos rfl]
   ·rw[if_neg h2,if_neg (by omega)]
  ·rw[if_neg h1,if_neg h1]
 have old:∀j a,j≠i->((h.set i z).take n)[j]?=some a->h[j]?=some a:=by
  intro j a hj ha;rw[g] at ha;rw[if_neg hj] at ha;split at ha
  ·exact ha
  ·cases ha
 have top:=(hh.hu i).2;have kids:Kids ((h.set i z).take n) i:=λj h0 hp a b ha nu=>by
  have n1:j≠i:=by intro h;unfold par at hp;omega
  rw[g,if_pos hi,if_pos rfl] at nu;cases nu
  exact Nw (top j h0 hp h0i a y (old j a n1 ha) hy) hb
 refine⟨⟨λj h0 hj a b ha nu=>?_,λj h0 hp SJ a b ha nu=>?_⟩,kids⟩
 ·by_cases e:par j=i
  ·rw[e] at nu;exact kids j h0 e a b ha nu
  ·exact hh j h0 a b (old j a hj ha) (old _ b e nu)
 ·have n1:j≠i:=by intro h;unfold par at hp;omega
  have n2:par i≠i:=by unfold par;omega
  exact top j h0 hp SJ a b (old j a n1 ha) (old _ b n2 nu)
end
section
variable {W:World} {R:LH} {L:LH} {K:VK} {X:WK} {r o:Nat} {cs:LV} {b:OA} {c:Nat} {h:List Item}
def GS{x y:Item}(hk:T W L (K (.bool (decide (bf x y))))):T W L (nG (dG x) (dG y) K):=by
 unfold nG
 repeat' first|apply ws;intros|apply wb|with_reducible refine bB (λh1=>?_) (λh1=>?_)|fail
 all_goals refine T.fin (T.dp hk) ?_
 ·have:=of_decide_eq_true h1;rw[decide_eq_true (show bf x y from .inl this)]
 ·rename_i h2;have h2:=of_decide_eq_false h2;have h3:x.due=y.due:=by simpa using h1
  congr 1
  rw[decide_eq_decide];unfold bf;omega
 ·rename_i h2;have h2:=of_decide_eq_false h2;have h3: ¬x.due=y.due:=by simpa using h1
  rw[decide_eq_false (show ¬bf x y by unfold bf;omega)]
def Gp{i:Nat}(h0:0<i)(h:i<1099511627776):adN.wrap ((adN.wrap ((i:Int) -1)).tdiv (2:Int))=((par i:Nat):Int):=by
 have e0:adN.wrap ((i:Int) -1)=((i-1:Nat):Int):=by rw[aw (by omega)];omega
 rw[e0];unfold par;have e1:((i-1:Nat):Int).tdiv 2=(((i-1)/2:Nat):Int):=by rw[Int.tdiv_eq_ediv_of_nonneg (by omega)];omega
 rw[e1,aw (by omega)]
def Ww{i:Nat}(hv:cs[o]?=some (.l b h.length c))(hl:h.length<100000)(hi:i<h.length)(hu:HU h i)
 (hk:∀h',qH h'->h'.Perm h->T W (Sep.pt r cs::own b h.length c 4 (h'.flatMap dG)::R) (K (.tuple ⟨[]⟩))):
 T W (Sep.pt r cs::own b h.length c 4 (h.flatMap dG)::R) (fy (some ⟨r,o,none⟩) (i:Int) K):=by
 unfold fy;intro w hs;refine⟨λvs w=>∃(j:Nat)(m:List Item),j<h.length/\m.length=h.length/\m.Perm h/\HU m j/\vs=[.i (j:Int)]/\St W w (Sep.pt r cs::own b h.length c 4 (m.flatMap dG)::R),
  λvs _=>match vs with|[.int _ j]=>j.toNat|_=>0,⟨i,h,hi,rfl,aeh.refl _,hu,rfl,hs⟩,?_⟩
 rintro n2 w2 ⟨j,m,hj,Gf,hp,hum,e,hs⟩;cases e
 refine T.at ?_ hs;apply ws;intros;refine dO (λg1=>?_) (λg1=>?_)
 ·have h0:0<j:=by omega
  have Mb:par j<m.length:=by unfold par;omega
  have gx:=adQ (show j<m.length by omega);have gy:=adQ Mb;generalize m[j]=x at gx;generalize m[par j]=y at gy;have gS:j≠par j:=by unfold par;omega
  simp only[Gp h0 (by omega:j<1099511627776)]
  repeat' first|apply ws;intros|apply wb|with_reducible refine jM hv ?_|fail
  refine bR ⟨by omega,by omega⟩ λrb hb=>?_;subst hb;rw[adR];refine dy eX gx ?_
  repeat' first|apply ws;intros|apply wb|with_reducible first|refine jM hv ?_|refine cK (by decide) ?_|fail
  refine oX ⟨by omega,by omega⟩ ?_;rw[adR];refine dy eX gy ?_
  repeat' first|apply ws;intros|apply wb|with_reducible first|refine GS ?_|refine tK hv ?_|fail
  unfold fy.j1;simp only[Gp h0 (by omega:j<1099511627776)];refine dO (λg2=>?_) (λg2=>?_)
  ·have hb:=g2
   repeat' first|apply ws;intros|apply wb|with_reducible first|refine jM hv ?_|refine cK (by decide) ?_|fail
   refine oX ⟨by omega,by omega⟩ ?_;rw[adR];refine dy eX gy ?_
   repeat' first|apply ws;intros|apply wb|with_reducible first|refine jM hv ?_|refine cK (by decide) ?_|fail
   refine oX ⟨by omega,by omega⟩ ?_;rw[adR];refine dy eX gx ?_;refine oX ⟨by omega,by omega⟩ ?_;rw[adR];refine cK rfl (mW eX (by omega) (my _) ?_);refine oX ⟨by omega,by omega⟩ ?_;rw[adR];refine cK rfl (mW eX (by simp;omega) (my _) ?_);refine cK (by decide) λw3 h3=>⟨⟨par j,P4 m j (par j) x y,by omega,by rw[I'];exact Gf,(Fk gx gy gS).trans hp,hum.step h0 gx gy hb,rfl,h3⟩,by show(par j:Int).toNat<(j:Int).toNat;unfold par;omega⟩
  ·refine hk m (hum.heap (.inr ?_)) hp;intro a b ha nu;rw[gx] at ha;rw[gy] at nu;cases ha;cases nu
   exact g2
 ·have h0:j=0:=by omega
  unfold fy.j1;refine qf ?_;exact hk m (hum.heap (.inl h0)) hp
def Ve{i:Nat}(hv:cs[o]?=some (.l b h.length c))(hl:h.length<100000)(hi:i<h.length)(hd:HD h i\/Kids h i)
 (hk:∀h',(qH h'\/h'=h/\Kids h i)->h'.Perm h->T W (Sep.pt r cs::own b h.length c 4 (h'.flatMap dG)::R) (K (.tuple ⟨[]⟩))):
 T W (Sep.pt r cs::own b h.length c 4 (h.flatMap dG)::R) (cU (some ⟨r,o,none⟩) (i:Int) K):=by
 unfold cU;intro w hs;refine⟨λvs w=>∃(j:Nat)(m:List Item),j<h.length/\m.length=h.length/\m.Perm h/\(HD m j\/m=h/\j=i/\Kids h i)/\vs=[.i (j:Int)]/\St W w (Sep.pt r cs::own b h.length c 4 (m.flatMap dG)::R),
  λvs _=>match vs with|[.int _ j]=>h.length-j.toNat|_=>0,⟨i,h,hi,rfl,aeh.refl _,hd.imp id λhh=>⟨rfl,rfl,hh⟩,rfl,hs⟩,?_⟩
 rintro n2 w2 ⟨j,m,hj,Gf,hp,Ei,e,hs⟩;cases e
 have e1:adN.wrap (adN.wrap (2* (j:Int))+1)=((2* j+1:Nat):Int):=by
  have:adN.wrap (2* (j:Int))=2* j:=aw (by omega);rw[this,aw (by omega)];omega
 have e2:adN.wrap (adN.wrap (2* (j:Int))+2)=((2* j+2:Nat):Int):=by
  have:adN.wrap (2* (j:Int))=2* j:=aw (by omega);rw[this,aw (by omega)];omega
 rw[e1];refine⟨λvs w=>∃(k d:Nat),2* j+1<=d/\d<=2* j+3/\(k=j\/0<k/\par k=j/\∃x y,m[k]?=some x/\m[j]?=some y/\bf x y)/\(∀q,0<q->par q=j->q<d->NB m q k)/\k<h.length/\
    vs=[.i (j:Int),.i (k:Int),.i (d:Int)]/\St W w (Sep.pt r cs::own b h.length c 4 (m.flatMap dG)::R),
  λvs _=>match vs with|[_,_,.int _ d]=>2* j+3-d.toNat|_=>0,⟨j,2* j+1,adW _,by omega,.inl rfl,(λq h0 hq aZ=>by unfold par at hq;omega),hj,rfl,hs⟩,?_⟩
 rintro n5 n6 n7 w5 ⟨k,d,hd1,Py,XI,uW,UB,e,hs⟩;cases e
 refine T.at ?_ hs;rw[e2];have out:(∀q,0<q->par q=j->NB m q k)->T W (Sep.pt r cs::own b h.length c 4 (m.flatMap dG)::R) (cU.j1 K (some ⟨r,o,none⟩) (λvs w=>∃(j:Nat)(m:List Item),j<h.length/\m.length=h.length/\m.Perm h/\(HD m j\/m=h/\j=i/\Kids h i)/\vs=[.i (j:Int)]/\St W w (Sep.pt r cs::own b h.length c 4 (m.flatMap dG)::R))
                      (λvs _=>match vs with|[.int _ j]=>h.length-j.toNat|_=>0) (j:Int) w2 (j:Int) (k:Int)):=by
  intro fH;unfold cU.j1;refine bB (λg1=>?_) (λg1=>?_)
  ·have:k=j:=by have:(k:Int)=j:=by simpa using g1
                omega
   subst this;refine hk m ?_ hp;rcases Ei with Ei|⟨hm,Gh,UC⟩
   ·exact .inl (Ei.heap fH)
   ·exact .inr ⟨hm,UC⟩
  ·have gS:k≠j:=by
    intro hh;subst hh;simp at g1
   obtain⟨h0,QZ,x,y,gx,gy,hb⟩:=XI.resolve_left gS;have aaQ:HD m j:=by
    rcases Ei with Ei|⟨hm,Gh,UC⟩
    ·exact Ei
    ·subst hm;subst Gh;exact absurd hb (UC k h0 QZ x y gx gy)
   repeat' first|apply ws;intros|apply wb|with_reducible refine jM hv ?_|fail
   refine bR ⟨by omega,by omega⟩ λrb nu=>?_;subst nu;rw[adR];refine dy eX gx ?_
   repeat' first|apply ws;intros|apply wb|with_reducible refine jM hv ?_|fail
   refine oX ⟨by omega,by omega⟩ ?_;rw[adR];refine dy eX gy ?_;refine oX ⟨by omega,by omega⟩ ?_;rw[adR];refine cK rfl (mW eX (by omega) (my _) ?_);refine oX ⟨by omega,by omega⟩ ?_;rw[adR];refine cK rfl (mW eX (by simp;omega) (my _) ?_);refine λw3 h3=>⟨⟨k,P4 m j k y x,UB,by rw[I'];exact Gf,(Fk gy gx (λhh=>gS hh.symm)).trans hp,.inl (aaQ.step QZ h0 gy gx hb fH),rfl,h3⟩,by show h.length-(k:Int).toNat<h.length-(j:Int).toNat;unfold par at QZ;omega⟩
 refine dO (λg1=>?_) (λg1=>?_)
 ·have hle:d<=2* j+2:=by omega
  repeat' first|apply ws;intros|apply wb|with_reducible refine jM hv ?_|fail
  unfold cU.j2;refine dO (λg2=>?_) (λg2=>?_)
  ·have aZ:d<h.length:=by omega
   have gx:=adQ (show d<m.length by omega);have gy:=adQ (show k<m.length by omega);generalize m[d]=x at gx;generalize hmk:m[k]'(by omega)=y at gy;have hpd:par d=j:=by unfold par;omega
   have e5:=l9 d
   repeat' first|apply ws;intros|apply wb|with_reducible refine jM hv ?_|fail
   refine bR ⟨by omega,by omega⟩ λrb hb=>?_;subst hb;rw[adR];refine dy eX gx ?_
   repeat' first|apply ws;intros|apply wb|with_reducible refine jM hv ?_|fail
   refine oX ⟨by omega,by omega⟩ ?_;rw[adR];refine dy eX gy ?_
   repeat' first|apply ws;intros|apply wb|with_reducible first|refine GS ?_|refine tK hv ?_|fail
   rw[e5];refine dO (λg3=>?_) (λg3=>?_)
   ·have hb:=g3;refine λw3 h3=>⟨⟨d,d+1,by omega,by omega,.inr ⟨by omega,hpd,x,?_⟩,λq h0 hq rr a b' ha ue=>?_,aZ,rfl,h3⟩,by show 2* j+3-((d+1:Nat):Int).toNat<2* j+3-(d:Int).toNat;omega⟩
    ·rcases XI with rfl|⟨h0,QZ,x1,y1,q1,q2,q3⟩
     ·exact⟨y,gx,gy,hb⟩
     ·rw[gy] at q1;cases q1
      exact⟨y1,gx,q2,GR hb q3⟩
    ·rw[gx] at ue;cases ue
     by_cases hqd:q=d
     ·subst hqd;rw[gx] at ha;cases ha;exact IF x
     ·exact Nw (uW q h0 hq (by omega) a y ha gy) hb
   ·have hb:=g3;refine λw3 h3=>⟨⟨k,d+1,by omega,by omega,XI,λq h0 hq rr=>?_,UB,rfl,h3⟩,by show 2* j+3-((d+1:Nat):Int).toNat<2* j+3-(d:Int).toNat;omega⟩;by_cases hqd:q=d
    ·subst hqd;intro a b' ha ue;rw[gx] at ha;rw[gy] at ue;cases ha;cases ue;exact hb
    ·exact uW q h0 hq (by omega)
  ·have gj:h.length<=d:=by omega
   refine out λq h0 hq a b' ha ue=>?_;have:=(adS.1 ha).1;exact uW q h0 hq (by omega) a b' ha ue
 ·have JS:2* j+2<d:=by omega
  unfold cU.j2;refine qf ?_;exact out λq h0 hq=>uW q h0 hq (by unfold par at hq;omega)
def KL{z x:Item}{i n:Nat}(hl:h.length=n+1)(hi:i<n)(hz:h[n]?=some z)(hx:h[i]?=some x):(x::(h.set i z).take n).Perm h:=by
 have h1:=ux (y:=z) hx;have h2:h.set i z=(h.set i z).take n++[z]:=by
  conv=>lhs;rw[<-aek n (h.set i z)]
  congr 1
  have:(h.set i z)[n]?=some z:=by rw[aem,if_neg (by omega)];exact hz
  rw[aev (by simp;omega),aex (by simp;omega)];rw[adQ (by simp;omega)] at this;rw[aea.inj this]
 rw[h2] at h1;have h3:(x::((h.set i z).take n++[z])).Perm (z::x::(h.set i z).take n):=((adY (l₁:=(h.set i z).take n) (l₂:=[z])).cons x).trans (aeh.swap _ _ _);exact(List.perm_cons z).1 (h3.symm.trans h1)
def TA{α:Type}{r n c e o:Nat}{l:List α}{x:α}{g:α->LV}{f:HP->LH}[i:oS (some ⟨r,0,none⟩) n c L e (l.flatMap g) f](hf:∀x,(g x).length=e)(hx:l[o]?=some x)(h:T W L X):T W L (kp ⟨r,o* e,none⟩ (g x) X):=λw hs=>by
 obtain⟨k,hk,_⟩:=i.at_;exact⟨yx hs hk (nL hf l o x hx),h w hs⟩
def T.Qf{A B C D:HP}(h:T W (A::B::C::D::R) X):T W (C::D::A::B::R) X:=T.perm h (adY (l₁:=[C,D]) (l₂:=[A,B])|>.append_right R)
def T.Sq{A B C:HP}(h:T W (A::B::C::R) X):T W (C::A::B::R) X:=T.perm h (adY (l₁:=[C]) (l₂:=[A,B])|>.append_right R)
def T.Sr{A B C:HP}(h:T W (A::B::C::R) X):T W (B::C::A::R) X:=T.perm h (adY (l₁:=[B,C]) (l₂:=[A])|>.append_right R)
def Tw{i:Nat}{x:Item}(hv:cs[o]?=some (.l b h.length c))(hl:h.length<100000)(hx:h[i]?=some x)(hh:qH h)
 (hk:∀h',qH h'->(x::h').Perm h->T W (Sep.pt r (cs.set o (.l b h'.length c))::own b h'.length c 4 (h'.flatMap dG)::R) (K (.agg ⟨dG x⟩))):
 T W (Sep.pt r cs::own b h.length c 4 (h.flatMap dG)::R) (mu (some ⟨r,o,none⟩) (i:Int) K):=by
 have hi:=(adS.1 hx).1;obtain⟨n,hn⟩:∃n,h.length=n+1:=⟨h.length-1,by omega⟩;have gz:=adQ (show n<h.length by omega);generalize h[n]=z at gz;have e1:adN.wrap ((h.length:Int) -1)=(n:Int):=by rw[aw (by omega)];omega
 unfold mu
 repeat' first|apply ws;intros|apply wb|with_reducible refine jM hv ?_|fail
 refine bR ⟨by omega,by omega⟩ λrb hb=>?_;subst hb;rw[adR];refine dy eX hx ?_
 repeat' first|apply ws;intros|apply wb|with_reducible first|refine jM hv ?_|refine tK hv ?_|fail
 refine TA eX hx ?_
 repeat' first|apply ws;intros|apply wb|with_reducible first|refine jM hv ?_|refine tK hv ?_|fail
 rw[e1];refine oX ⟨by omega,by omega⟩ ?_;rw[adR];refine dy eX gz ?_;refine oX ⟨by omega,by omega⟩ ?_;rw[adR];refine cK rfl (mW eX hi (my _) ?_)
 repeat' first|apply ws;intros|apply wb|with_reducible first|refine jM hv ?_|refine tK hv ?_|fail
 refine mR (b:=some ⟨rb,0,none⟩) λqP _=>?_;refine vj (by omega) ?_;refine wg (b:=some ⟨rb,0,none⟩) (i:=n) eX (by omega) ?_
 repeat' first|apply ws;intros|apply wb|with_reducible refine DK hv rfl ?_|fail
 have yP:=pc (v:=.l (some ⟨rb,0,none⟩) n c) hv;refine dO (λg1=>?_) (λg1=>?_)
 ·have aZ:i<n:=by omega
  have hp:=KL hn aZ gz hx;have Gf:((h.set i z).take n).length=n:=by simp;omega
  rename_i r1 r2;refine T.Qf ?_;have key:HD ((h.set i z).take n) i\/HU ((h.set i z).take n) i/\Kids ((h.set i z).take n) i:=by
   by_cases h0:i=0
   ·exact .inl (I2 hh hn aZ gz (.inl h0))
   ·have Mb:par i<h.length:=by unfold par;omega
    have gy:=adQ Mb;generalize h[par i]=y at gy;by_cases hb:bf z y
    ·exact .inr (PT hh hn aZ gz (by omega) gy hb)
    ·refine .inl (I2 hh hn aZ gz (.inr ?_));intro a b' ha nu;have He:par i≠i:=by unfold par;omega
     have hpn:par i<n:=by unfold par;omega
     rw[afg,if_pos aZ,aem,if_pos rfl,if_pos hi] at ha;rw[afg,if_pos hpn,aem,if_neg (λh=>He h.symm),gy] at nu;cases ha;cases nu;exact hb
  generalize (h.set i z).take n=m at hp Gf key;subst Gf;refine Ve yP (by omega) aZ (key.imp id (·.2)) λm2 JQ Ga=>?_;apply ws;intros;have NT:=Ga.length_eq;rw[<-NT];have QW:=pc (v:=.l (some ⟨rb,0,none⟩) m2.length c) hv;have hu2:HU m2 i:=by
   rcases JQ with JQ|⟨rfl,UC⟩
   ·exact JQ.hu i
   ·rcases key with k1|k1
    ·exact(k1.heap UC).hu i
    ·exact k1.1
  refine Ww QW (by omega) (by omega) hu2 λm3 hm3 hp3=>?_;apply ws;intros;have Pu:=hp3.length_eq;have:=hk m3 hm3 ((hp3.trans Ga).cons x|>.trans hp);rw[Pu] at this;exact T.Qf (T.drop (T.drop this))
 ·have Wd:i=n:=by omega
  subst Wd;apply ws;intros;have hm:(h.set i z).take i=h.take i:=by rw[List.take_set_of_le (adW _)]
  rw[hm];have Gf:(h.take i).length=i:=by simp;omega
  have hh':qH (h.take i):=λj h0 a b' ha nu=>by
   rw[afg] at ha nu;split at ha
   ·split at nu
    ·exact hh j h0 a b' ha nu
    ·cases nu
   ·cases ha
  have:=hk (h.take i) hh' (by
   conv=>rhs;rw[<-aek i h]
   have:h.drop i=[x]:=by
    rw[aev hi,aex (by omega)]
    rw[adQ hi] at hx
    rw[aea.inj hx]
   rw[this]
   exact adY (l₁:=[x]) (l₂:=h.take i))
  rw[Gf] at this;exact T.dp this
def TX{x:Item}(hv:cs[o]?=some (.l b h.length c))(hl:h.length<10000)(hh:qH h)
 (hk:∀b' c' h',qH h'->h'.Perm (h++[x])->T W (Sep.pt r (cs.set o (.l b' h'.length c'))::own b' h'.length c' 4 (h'.flatMap dG)::R) (K (.tuple ⟨[]⟩))):
 T W (Sep.pt r cs::own b h.length c 4 (h.flatMap dG)::R) (iC (some ⟨r,o,none⟩) (dG x) K):=by
 unfold iC;refine qE λr1=>TE ?_
 repeat' first|apply ws;intros|apply wb|with_reducible first|refine jM hv ?_|refine tK hv ?_|fail
 refine gY (x:=x) (by simp) rfl rfl (by omega) (by omega) (my _) λb' c'=>?_
 repeat' first|apply ws;intros|apply wb|with_reducible first|refine DK hv rfl ?_|refine jM (pc hv) ?_|fail
 rename_i r2;have e1:adN.wrap (((h.length+1:Nat):Int) -1)=(h.length:Int):=by rw[aw (by omega)];omega
 rw[e1];refine T.Qf ?_;have hu:HU (h++[x]) h.length:=by
  refine⟨λj h0 hj a b' ha nu=>?_,λj h0 hp hi a b' ha nu=>?_⟩
  ·have aZ:=(adS.1 ha).1;simp at aZ;rw[aec (by omega)] at ha;rw[aec (by unfold par;omega)] at nu;exact hh j h0 a b' ha nu
  ·have aZ:=(adS.1 ha).1;simp at aZ;unfold par at hp;omega
 have yP:=pc (v:=.l b' (h.length+1) c') hv;have Hh:(h++[x]).length=h.length+1:=by simp
 rw[<-Hh] at yP⊢;refine Ww yP (by omega) (by simp) hu λm hm hp=>?_;apply ws;intros;have:=hk b' c' m hm hp;rw[hp.length_eq] at this;exact T.Qf (T.drop (T.drop this))
def Qs{s:Int}(hv:cs[o]?=some (.l b h.length c))(hl:h.length<10000)(hh:qH h)
 (h1:∀x m,x.ae=s->qH m->(x::m).Perm h->T W (Sep.pt r (cs.set o (.l b m.length c))::own b m.length c 4 (m.flatMap dG)::R) (K (.bool true)))
 (h0:(∀x∈h,x.ae≠s)->T W (Sep.pt r cs::own b h.length c 4 (h.flatMap dG)::R) (K (.bool false))):
 T W (Sep.pt r cs::own b h.length c 4 (h.flatMap dG)::R) (iX (some ⟨r,o,none⟩) s K):=by
 unfold iX;refine tM ?_
 repeat' first|apply ws;intros|apply wb|with_reducible refine jM hv ?_|fail
 intro w hs;refine⟨λvs w=>∃(i:Nat),i<=h.length/\(∀j x,j<i->h[j]?=some x->x.ae≠s)/\vs=[.bool false,.l b h.length c,.i (h.length:Int),.i (i:Int)]/\St W w (Sep.pt r cs::own b h.length c 4 (h.flatMap dG)::R),
  λvs _=>match vs with|[_,_,_,.int _ d]=>h.length-d.toNat|_=>0,⟨0,ad0 _,(λj x hj=>by omega),rfl,hs⟩,?_⟩
 rintro b1 sm qB sw n2 n3 w2 ⟨i,hi,Eg,e,hs⟩;cases e
 refine T.at ?_ hs;refine dO (λg1=>?_) (λg1=>?_)
 ·have aZ:i<h.length:=by omega
  have gx:=adQ aZ;generalize h[i]=x at gx;have e5:=l9 i;refine bR ⟨by omega,by omega⟩ λrb hb=>?_;subst hb;rw[adR];refine dy eX gx ?_;apply ws;intros;rename_i r1;rw[e5];refine bB (λg2=>?_) (λg2=>?_)
  ·refine T.Sq ?_;refine Tw hv (by omega) gx hh λm hm hp=>?_;apply ws;intros;refine T.Sr (T.drop ?_);exact h1 x m (by simpa using g2) hm hp
  ·refine T.drop λw3 h3=>⟨⟨i+1,aZ,λj y hj hy=>?_,rfl,h3⟩,by show h.length-((i+1:Nat):Int).toNat<h.length-(i:Int).toNat;omega⟩;by_cases Gh:j=i
   ·subst Gh;rw[gx] at hy;cases hy;simpa using g2
   ·exact Eg j y (by omega) hy
 ·have gj:i=h.length:=by omega
  refine h0 λx hx=>?_;obtain⟨j,hj⟩:=ae' hx;exact Eg j x (by have:=(adS.1 hj).1;omega) hj
end
class PH{α β:Type}(P:α->HP)(Q:β->HP)(L:LH)(x:outParam α)(y:outParam β)(F:outParam (α->β->LH)):Prop where
 at_:∃R:LH,L.Perm (P x::Q y::R)/\∀x' y',(F x' y').Perm (P x'::Q y'::R)
section
variable {α β:Type} {P:α->HP} {Q:β->HP} {L:LH} {x:α} {y:β}
def Lc.perm{f:α->LH}(h:Lc P L x f):∃R:LH,L.Perm (P x::R)/\∀x',(f x').Perm (P x'::R):=by
 obtain⟨k,h1,h2⟩:=h.at_;exact⟨L.eraseIdx k,oP h1,λy=>by rw[h2];exact(set_perm h1).symm⟩
instance(priority:=low) PH.tail{A:HP}{F:α->β->LH}[h:PH P Q L x y F]:PH P Q (A::L) x y (λa b=>A::F a b):=by
 obtain⟨R,h1,h2⟩:=h.at_;exact⟨A::R,(h1.cons A).trans ((aeh.swap _ _ _).trans ((aeh.swap _ _ _).cons _)),λa b=>((h2 a b).cons A).trans ((aeh.swap _ _ _).trans ((aeh.swap _ _ _).cons _))⟩
instance PH.adg{f:α->LH}[h:Lc P L x f]:PH P Q (Q y::L) x y (λa b=>Q b::f a):=by
 obtain⟨R,h1,h2⟩:=h.perm;exact⟨R,(h1.cons _).trans (aeh.swap _ _ _),λa b=>((h2 a).cons _).trans (aeh.swap _ _ _)⟩
def zF{W:World}{X:WK}{F:α->β->LH}[i:PH P Q L x y F](h:∀R,(∀M a b Y,T W (M++F a b) Y->T W (M++P a::Q b::R) Y)->T W (P x::Q y::R) X):T W L X:=by
 obtain⟨R,h1,h2⟩:=i.at_;exact T.perm (h R λM a b Y hy=>T.perm hy ((h2 a b).symm.append_left M)) h1
end
def St.ov{W w:World}:∀(M R:LH),St W w (zl M::R)->St W w (M++R)
 |[],R,h=>h.drop
 |A::M,R,h=>(St.ov M (A::R) (h.split.perm (aeh.swap _ _ _))).perm ae2
def St.mY{W w:World}:∀(M R:LH),St W w (M++R)->St W w (zl M::R)
 |[],R,h=>h.push trivial
 |A::M,R,h=>St.join ((St.mY M (A::R) (h.perm ae2.symm)).perm (aeh.swap _ _ _))
structure Core where
 la:Nat
 lk:Nat
 ti:Nat
 tn:Nat
 vs:LV
 stamps:List km
 ends:List Item
 clock:Int
 ae:Int
def fx(q:Core)(b1:OA)(c1:Nat)(b2:OA)(c2:Nat)(b3:OA)(n3 c3:Nat):LV:=
 [.l b1 q.vs.length c1,.p (some (ad q.la 0)),.p (some (ad q.lk 0)),.p (some (ad q.ti 0)),.p (some (ad q.tn 0)),.l b2 q.stamps.length c2,.l b3 n3 c3,.i q.clock,.i q.ae]
def coreS(p:Nat)(q:Core)(b1:OA)(c1:Nat)(b2:OA)(c2:Nat)(b3:OA)(c3:Nat)(h:List Item):LH:=
 [Sep.pt p (fx q b1 c1 b2 c2 b3 h.length c3),own b1 q.vs.length c1 1 q.vs,own b2 q.stamps.length c2 2 (q.stamps.flatMap lu),own b3 h.length c3 4 (h.flatMap dG)]
def dM(p:Nat)(q:Core):HP:=
 SX λz:(OA×Nat)×(OA×Nat)×(OA×Nat)×List Item=>LQ (qH z.2.2.2/\z.2.2.2.Perm q.ends) (zl (coreS p q z.1.1 z.1.2 z.2.1.1 z.2.1.2 z.2.2.1.1 z.2.2.1.2 z.2.2.2))
def uk(q:Core)(o:Nat):Option Value:=match o with
 |1=>some (.p (some (ad q.la 0)))
 |2=>some (.p (some (ad q.lk 0)))
 |3=>some (.p (some (ad q.ti 0)))
 |4=>some (.p (some (ad q.tn 0)))
 |7=>some (.i q.clock)
 |8=>some (.i q.ae)
 |_=>none
section
variable {W:World} {L:LH} {K:VK} {X:WK} {p o:Nat} {q:Core} {f:Core->LH} {v:Value}
def DB{R:LH}(hx:∀b1 c1 b2 c2 b3 c3 h,qH h->h.Perm q.ends->T W (Sep.pt p (fx q b1 c1 b2 c2 b3 h.length c3)::own b1 q.vs.length c1 1 q.vs::own b2 q.stamps.length c2 2 (q.stamps.flatMap lu)::own b3 h.length c3 4 (h.flatMap dG)::R) X):T W (dM p q::R) X:=λw hs=>by
 obtain⟨⟨⟨b1,c1⟩,⟨b2,c2⟩,⟨b3,c3⟩,hp⟩,hs⟩:=hs.ex;obtain⟨⟨h1,h2⟩,hs⟩:=hs.and;exact hx b1 c1 b2 c2 b3 c3 hp h1 h2 w (St.ov _ _ hs)
def vK{R:LH}{b1:OA}{c1:Nat}{b2:OA}{c2:Nat}{b3:OA}{c3:Nat}{h:List Item}(h1:qH h)(h2:h.Perm q.ends)(hx:T W (dM p q::R) X):T W (Sep.pt p (fx q b1 c1 b2 c2 b3 h.length c3)::own b1 q.vs.length c1 1 q.vs::own b2 q.stamps.length c2 2 (q.stamps.flatMap lu)::own b3 h.length c3 4 (h.flatMap dG)::R) X:=λw hs=>
 hx w (St.nM ((b1,c1),(b2,c2),(b3,c3),h) (St.and_intro ⟨h1,h2⟩ (St.mY _ _ hs)))
def zE{α:Type}{P:α->HP}{a:α}{f:α->LH}[i:Lc P L a f](h:∀R,(∀M y Y,T W (M++f y) Y->T W (M++P y::R) Y)->T W (P a::R) X):T W L X:=by
 obtain⟨R,h1,h2⟩:=i.perm;exact T.perm (h R λM y Y hy=>T.perm hy ((h2 y).symm.append_left M)) h1
def T.DS{R:LH}{A B C:HP}(h:T W (A::C::B::R) X):T W (A::B::C::R) X:=T.perm h ((aeh.swap _ _ _).cons _)
def T.HG{R:LH}{A B C D:HP}(h:T W (A::D::B::C::R) X):T W (A::B::C::D::R) X:=T.perm h ((adY (l₁:=[B,C]) (l₂:=[D])|>.append_right R).cons _)
def T.AB{R:LH}{A B C D:HP}(h:T W (A::B::C::D::R) X):T W (A::D::B::C::R) X:=T.perm h ((adY (l₁:=[D]) (l₂:=[B,C])|>.append_right R).cons _)
def mD[i:Lc (dM p) L q f](hx:∀b1 c1 b2 c2 b3 c3 h R,qH h->h.Perm q.ends->
 (∀M q' b1 c1 b2 c2 b3 c3 h Y,qH h->h.Perm q'.ends->T W (M++f q') Y->T W (M++Sep.pt p (fx q' b1 c1 b2 c2 b3 h.length c3)::own b1 q'.vs.length c1 1 q'.vs::own b2 q'.stamps.length c2 2 (q'.stamps.flatMap lu)::own b3 h.length c3 4 (h.flatMap dG)::R) Y)->T W (Sep.pt p (fx q b1 c1 b2 c2 b3 h.length c3)::own b1 q.vs.length c1 1 q.vs::own b2 q.stamps.length c2 2 (q.stamps.flatMap lu)::own b3 h.length c3 4 (h.flatMap dG)::R) X):T W L X:=
 zE (P:=dM p) λR hc=>DB λb1 c1 b2 c2 b3 c3 h h1 h2=>hx b1 c1 b2 c2 b3 c3 h R h1 h2 λM q' b1 c1 b2 c2 b3 c3 h Y g1 g2 hy=>
  T.perm (vK (R:=M++R) g1 g2 (T.perm (hc M q' Y hy) (ae2.symm))) (by
   have:=adY (l₁:=M) (l₂:=[Sep.pt p (fx q' b1 c1 b2 c2 b3 h.length c3),own b1 q'.vs.length c1 1 q'.vs,own b2 q'.stamps.length c2 2 (q'.stamps.flatMap lu),own b3 h.length c3 4 (h.flatMap dG)])|>.append_right R
   simpa using this)
def xf{b1:OA}{c1:Nat}{b2:OA}{c2:Nat}{b3:OA}{c3 n:Nat}(hv:uk q o=some v):(fx q b1 c1 b2 c2 b3 n c3)[o]?=some v:=by
 unfold uk at hv;split at hv<;>first|exact hv|cases hv
def WH[i:Lc (dM p) L q f](hv:uk q o=some v)(h:T W L (K v)):T W L (ld ⟨p,o,none⟩ K):=by
 have hL:f q=L:=i.same;refine mD (p:=p) λb1 c1 b2 c2 b3 c3 hp R h1 h2 hc=>?_;refine jM (r:=p) (xf hv) ?_;exact hc [] q _ _ _ _ _ _ _ _ h1 h2 (by rw[hL];exact h)
def WI[i:Lc (dM p) L q f](hv:uk q o=some v)(h:T W L X):T W L (kp ⟨p,o,none⟩ [v] X):=by
 have hL:f q=L:=i.same;refine mD (p:=p) λb1 c1 b2 c2 b3 c3 hp R h1 h2 hc=>?_;refine tK (r:=p) (xf hv) ?_;exact hc [] q _ _ _ _ _ _ _ _ h1 h2 (by rw[hL];exact h)
class Gc(q:Core)(o:Nat)(v:outParam Value):Prop where
 is:uk q o=some v
instance:Gc q 1 (.p (some (ad q.la 0))):=⟨rfl⟩
instance:Gc q 2 (.p (some (ad q.lk 0))):=⟨rfl⟩
instance:Gc q 3 (.p (some (ad q.ti 0))):=⟨rfl⟩
instance:Gc q 4 (.p (some (ad q.tn 0))):=⟨rfl⟩
instance:Gc q 7 (.i q.clock):=⟨rfl⟩
instance:Gc q 8 (.i q.ae):=⟨rfl⟩
instance[i:Lc (dM p) L q f][g:Gc q o v]:Lv L p o v:=⟨λh=>WH (i:=i) g.is h,λh=>WI (i:=i) g.is h⟩
def Hu[i:Lc (dM p) L q f]{t:Int}(h:T W (f {q with clock:=t}) X):T W L (st ⟨p,7,none⟩ (.i t) X):=by
 refine mD (p:=p) λb1 c1 b2 c2 b3 c3 hp R h1 h2 hc=>?_;unfold fx;apply ws;intros;exact hc [] {q with clock:=t} _ _ _ _ _ _ _ _ h1 h2 h
def Ht[i:Lc (dM p) L q f]{t:Int}(h:T W (f {q with ae:=t}) X):T W L (st ⟨p,8,none⟩ (.i t) X):=by
 refine mD (p:=p) λb1 c1 b2 c2 b3 c3 hp R h1 h2 hc=>?_;unfold fx;apply ws;intros;exact hc [] {q with ae:=t} _ _ _ _ _ _ _ _ h1 h2 h
def rE[i:Lc (dM p) L q f](hl:q.vs.length<1000000)(h1v:v.oneCell'=true)(hcv:cS v=[v])(h:T W (f {q with vs:=q.vs++[v]}) (K (.tuple ⟨[]⟩))):T W L (eo (some ⟨p,0,none⟩) v K):=by
 refine mD (p:=p) λb1 c1 b2 c2 b3 c3 hp R h1 h2 hc=>?_;unfold eo fx;rw[hcv];apply ws;intros;refine MU (ys:=[v]) (n:=q.vs.length) (bytes:=8) rfl rfl (by omega) (λu hu=>by simp at hu;rw[hu];exact h1v) (λb' c'=>?_) (by omega);apply ws;intros;have:=hc [] {q with vs:=q.vs++[v]} b' c' b2 c2 b3 c3 hp _ h1 h2 h;unfold fx at this;simp only[adT,afd] at this;exact T.drop this
def VD[i:Lc (dM p) L q f](h:T W L (K (.i (q.vs.length:Int)))):T W L (oJ (some ⟨p,0,none⟩) K):=by
 have hL:f q=L:=i.same;refine mD (p:=p) λb1 c1 b2 c2 b3 c3 hp R h1 h2 hc=>?_;unfold oJ fx;apply ws;intros;exact hc [] q _ _ _ _ _ _ _ _ h1 h2 (by rw[hL];exact h)
def J1[i:Lc (dM p) L q f]{s a:Int}(hr:oH q.stamps)(hl:q.stamps.length<1099511627)(hs:∀x∈q.stamps,x.1<s)(h:T W (f {q with stamps:=q.stamps++[(s,a)]}) (K (.bool true))):T W L (fA (some ⟨p,5,none⟩) s a K):=by
 refine mD (p:=p) λb1 c1 b2 c2 b3 c3 hp R h1 h2 hc=>?_;refine T.DS ?_;refine T0 rfl hr hl hs λb' c'=>?_;refine T.DS ?_;have:=hc [] {q with stamps:=q.stamps++[(s,a)]} b1 c1 b' c' b3 c3 hp _ h1 h2 h;simp only[fx,adT,afd] at this;exact this
def Ox[i:Lc (dM p) L q f]{s a:Int}{l0:List km}(hr:oH q.stamps)(hl:q.stamps.length<1099511627)(hs:q.stamps=l0++[(s,a)])(h:T W (f {q with stamps:=l0}) (K (.bool true))):T W L (fG (some ⟨p,5,none⟩) s K):=by
 refine mD (p:=p) λb1 c1 b2 c2 b3 c3 hp R h1 h2 hc=>?_;refine T.DS ?_;refine Qv rfl hr hl hs λb' c'=>?_;refine T.DS ?_;exact hc [] {q with stamps:=l0} b1 c1 b' c' b3 c3 hp _ h1 h2 h
def LD[i:Lc (dM p) L q f]{from_ to:Int}{uL:Bool}(hr:oH q.stamps)(hl:q.stamps.length<100000)
 (h:∀b' c' out,out=(if uL then(mE from_ to q.stamps).reverse else mE from_ to q.stamps)->T W (own b' out.length c' 2 (out.flatMap lu)::L) (K (.l b' out.length c'))):T W L (dh (some ⟨p,5,none⟩) from_ to uL K):=by
 have hL:f q=L:=i.same;refine mD (p:=p) λb1 c1 b2 c2 b3 c3 hp R h1 h2 hc=>?_;refine Nt (b:=b2) (c:=c2) rfl hr hl λb' c' out ho=>?_;exact hc [_] q b1 c1 b2 c2 b3 c3 hp _ h1 h2 (by rw[hL];exact h b' c' out ho)
def Ey[i:Lc (dM p) L q f]{x:Item}{e':List Item}(hl:q.ends.length<10000)(he:e'.Perm (q.ends++[x]))(h:T W (f {q with ends:=e'}) (K (.tuple ⟨[]⟩))):T W L (iC (some ⟨p,6,none⟩) (dG x) K):=by
 refine mD (p:=p) λb1 c1 b2 c2 b3 c3 hp R h1 h2 hc=>?_;refine T.HG ?_;refine TX rfl (by rw[h2.length_eq];exact hl) h1 λb' c' h' g1 g2=>?_;refine T.AB ?_;exact hc [] {q with ends:=e'} b1 c1 b2 c2 b' c' h' _ g1 (g2.trans ((h2.append_right _).trans he.symm)) h
def GH[i:Lc (dM p) L q f]{s:Int}(hl:q.ends.length<10000)
 (h1:∀x e',x.ae=s->(x::e').Perm q.ends->T W (f {q with ends:=e'}) (K (.bool true)))(h0:(∀x∈q.ends,x.ae≠s)->T W L (K (.bool false))):T W L (iX (some ⟨p,6,none⟩) s K):=by
 have hL:f q=L:=i.same;rw[<-hL] at h0;refine mD (p:=p) λb1 c1 b2 c2 b3 c3 hp R g1 g2 hc=>?_;refine T.HG ?_;refine Qs rfl (by rw[g2.length_eq];exact hl) g1 (λx m hx hm hpm=>?_) (λEg=>?_)
 ·refine T.AB ?_;exact hc [] {q with ends:=m} b1 c1 b2 c2 b3 c3 m _ hm (aeh.refl _) (h1 x m hx (hpm.trans g2))
 ·refine T.AB ?_;exact hc [] q b1 c1 b2 c2 b3 c3 hp _ g1 g2 (h0 λx hx=>Eg x (g2.mem_iff.2 hx))
end
def eY(a:aP):(ao a).length=14:=rfl
def rP(k:Kept):(aI k).length=33:=rfl
section
variable {x1 x2 x3 x4 x5 x6 x7 x8 x9 zC zB zz zy Cy Ha G' PK PI Tm Tl Tk Tj Ti Th Tg Tf Te Td x29 x30 x31 x32 Z':Value} {k k':Kept} {i:Int} {m t:Move}
def zK:Kept:=⟨zT,zT,0⟩
instance:Wr [x1,x2,x3,x4,x5,x6,x7,x8,x9,zC,zB,zz,zy,Cy,Ha,G',PK,PI,Tm,Tl,Tk,Tj,Ti,Th,Tg,Tf,Te,Td,x29,x30,x31,x32,Z'] 0 (aI k) (aI k):=⟨rfl,adW _,ji k⟩
instance:Wr (aI k) 0 (aI k') (aI k'):=⟨rfl,adW _,ji k'⟩
instance:Wr [x1,x2,x3,x4,x5,x6,x7,x8,x9,zC,zB,zz,zy,Cy,Ha,G',PK,PI,Tm,Tl,Tk,Tj,Ti,Th,Tg,Tf,Te,Td,x29,x30,x31,x32,Z'] 0 [.u 0,.u 0,.u 0,.u 0,.u 0,.u 0,.u 0,.u 0,.u 0,.u 0,.i 0,.i 0,.i 0,.i 0,.i 0,.i 0,.u 0,.u 0,.u 0,.u 0,.u 0,.u 0,.u 0,.u 0,.u 0,.u 0,.i 0,.i 0,.i 0,.i 0,.i 0,.i 0,.i 0] (aI zK):=⟨rfl,adW _,ji zK⟩
instance:Wr (aI k) 32 [.i i] (aI {k with fate:=i}):=⟨rfl,by show 33<=33;decide,λv h=>by simp at h;subst h;rfl⟩
instance:Wr (aI k) 30 [.i i] (aI {k with move:={k.move with ae:=i}}):=⟨rfl,by show 31<=33;decide,λv h=>by simp at h;subst h;rfl⟩
instance:Wr (aI k) 31 [.i i] (aI {k with move:={k.move with born:=i}}):=⟨rfl,by show 32<=33;decide,λv h=>by simp at h;subst h;rfl⟩
instance:Sub (aI k) 16 2 (nm k.move.id):=⟨uT rfl rfl⟩
instance:Wr [x1,x2,x3,x4,x5,x6,x7,x8,x9,zC,zB,zz,zy,Cy,Ha,G',PK,PI,Tm,Tl,Tk,Tj,Ti,Th,Tg,Tf,Te,Td,x29,x30,x31,x32,Z'] 0 (ai m++(ai t++[.i i])) (aI ⟨m,t,i⟩):=⟨rfl,adW _,ji ⟨m,t,i⟩⟩
end
class PG(M L:LH):Prop where
 is:M.Sublist L
instance{L:LH}:PG L L:=⟨ad5.refl _⟩
instance(priority:=low){M L:LH}{A:HP}[h:PG M L]:PG M (A::L):=⟨h.is.cons A⟩
instance{M L:LH}{A:HP}[h:PG M L]:PG (A::M) (A::L):=⟨h.is.cons_cons A⟩
instance{R L:LH}[h:PG R L]:PG ([]++R) L:=⟨h.is⟩
instance{M R L:LH}{A:HP}[h:PG (A::(M++R)) L]:PG (A::M++R) L:=⟨h.is⟩
def mZ{M L:LH}[h:PG M L]:M.Sublist L:=h.is
def T.sub{W:World}{L M:LH}{X:WK}(h:T W M X)(s:M.Sublist L):T W L X:=by
 obtain⟨D,hD⟩:=s.exists_perm_append;have key:∀(D:LH),T W (D++M) X:=λD=>by
  induction D with
  |nil=>exact h
  |cons A D ih=>exact T.drop ih
 exact T.perm (key D) (hD.trans adY)
def od{α:Type}(g:α->LV)(e l:Nat)(x:Nat×List α):HP:=
 SX λz:OA×Nat=>zl [Sep.pt l [.l z.1 x.2.length z.2,.p (some (ad x.1 0))],own z.1 x.2.length z.2 e (x.2.flatMap g)]
def nF{W:World}{L:LH}{α:Type}{b b':OA}{n c m c1 e bytes:Nat}{zero:LV}{l0 l1:List α}{g:α->LV}{f f':HP->LH}{K:OA->Nat->Nat->WK}[i:oS b n c L e (l0.flatMap g) f][j:oS b' m c1 L e (l1.flatMap g) f'](hg:∀x,(g x).length=e)(hz:zero.length=e)
 (hb:(n+m)* bytes<=140737488355328/\n+m<=9223372036854775807)(h1:∀x,∀v∈g x,v.oneCell'=true)(h:∀b2 c2,T W (f (own b2 (n+m) c2 e ((l0++l1).flatMap g))) (K b2 (n+m) c2)):T W L (eS e bytes zero b n c b' m K):=λw hs=>by
 obtain⟨k,hk,e1⟩:=i.at_;obtain⟨k2,ru,_⟩:=j.at_;obtain⟨vD,kM⟩:=Ke (m:=m) hs ru;refine pZ hs hk vD kM hz hb.1 hb.2 (λv hv=>?_) λb2 c2 w' h'=>h b2 c2 w' (by rw[e1,aeN];exact h');obtain⟨x,_,hx⟩:=List.mem_flatMap.1 hv;exact h1 x v hx
section
variable {W:World} {L R:LH} {K:VK} {X:WK} {α:Type} {g:α->LV} {e l p:Nat} {items:List α} {f:Nat×List α->LH}
def nH(h:∀b c,T W (Sep.pt l [.l b items.length c,.p (some (ad p 0))]::own b items.length c e (items.flatMap g)::R) X):T W (od g e l (p,items)::R) X:=λw hs=>by
 obtain⟨⟨b,c⟩,hs⟩:=hs.ex;exact h b c w (St.ov _ _ hs)
def pR{b:OA}{n c:Nat}(hn:n=items.length)(h:T W (od g e l (p,items)::R) X):T W (Sep.pt l [.l b n c,.p (some (ad p 0))]::own b n c e (items.flatMap g)::R) X:=λw hs=>by
 subst hn;exact h w (St.nM (b,c) (St.mY _ _ hs))
def sC{M:LH}{b:OA}{n c:Nat}(hn:n=items.length)(h:T W (M++od g e l (p,items)::R) X):T W (M++Sep.pt l [.l b n c,.p (some (ad p 0))]::own b n c e (items.flatMap g)::R) X:=
 T.perm (pR (g:=g) (e:=e) (l:=l) (p:=p) (R:=M++R) hn (T.perm h ae2.symm)) (by
  have:=adY (l₁:=M) (l₂:=[Sep.pt l [.l b n c,.p (some (ad p 0))],own b n c e (items.flatMap g)])|>.append_right R
  simpa using this)
def CF[i:Lc (od g e l) L (p,items) f](h:∀b c R,(∀M b' n' c' Be Y,n'=Be.length->T W (M++f (p,Be)) Y->T W (M++Sep.pt l [.l b' n' c',.p (some (ad p 0))]::own b' n' c' e (Be.flatMap g)::R) Y)->
 T W (Sep.pt l [.l b items.length c,.p (some (ad p 0))]::own b items.length c e (items.flatMap g)::R) X):T W L X:=
 zE (P:=od g e l) λR hc=>nH λb c=>h b c R λM b' n' c' Be Y hn hy=>
  T.perm (pR (g:=g) (e:=e) (l:=l) (p:=p) (R:=M++R) hn (T.perm (hc M _ Y hy) ae2.symm)) (by
   have:=adY (l₁:=M) (l₂:=[Sep.pt l [.l b' n' c',.p (some (ad p 0))],own b' n' c' e (Be.flatMap g)])|>.append_right R
   simpa using this)
end
section
variable {W:World} {L R:LH} {K:VK} {X:WK} {l p:Nat} {items:List aP} {f:Nat×List aP->LH} {F:Nat×List aP->Core->LH} {q:Core} {x y:aP}
def IU[i:Lc (od ao 14 l) L (p,items) f](h:T W L (K (.i (items.length:Int)))):T W L (dc (some ⟨l,0,none⟩) K):=by
 have hL:f (p,items)=L:=i.same;refine CF (g:=ao) (e:=14) (l:=l) λb c R hc=>?_;unfold dc;apply ws;intros;exact hc [] _ _ _ _ _ rfl (by rw[hL];exact h)
def Ph{b:OA}{c:Nat}{v:Value}{n:Nat}{f1:LV->LH}{f2:HP->LH}[i:Lc (Sep.pt l) L [.l b items.length c,v] f1][j:oS b items.length c L 14 (items.flatMap ao) f2](hx:items[n]?=some x)(hl:items.length<1000000)
 (h:T W L (K (.tuple ⟨[.agg ⟨ao x⟩,.bool true]⟩))):T W L (bV (some ⟨l,0,none⟩) (n:Int) K):=by
 have aZ:=(adS.1 hx).1;unfold bV;apply ws;intros;refine dX (by simp) ?_;unfold dc;apply ws;intros;unfold bV.j1;refine dX (by simp;omega) ?_;apply ws;intros;refine bR ⟨by omega,by omega⟩ λr hr=>?_;subst hr;rw[adR];refine dy eY hx ?_;apply ws;intros;exact T.dp h
def Zp[i:Lc (od ao 14 l) L (p,items) f]{n:Nat}(hx:items[n]?=some x)(hl:items.length<1000000)(h:T W L (K (.tuple ⟨[.agg ⟨ao x⟩,.bool true]⟩))):T W L (bV (some ⟨l,0,none⟩) (n:Int) K):=by
 have hL:f (p,items)=L:=i.same;refine CF (g:=ao) (e:=14) (l:=l) λb c R hc=>?_;refine Ph hx hl ?_;exact hc [] _ _ _ _ _ rfl (by rw[hL];exact h)
abbrev xi(r1 r3:Nat):Value:=.func (.func N.aY) ⟨[]⟩ ⟨[.p (some (ad r1 0)),.p (some (ad r3 0))]⟩
abbrev zY(r4 r1 r2:Nat):Value:=.func (.func N.aX) ⟨[]⟩ ⟨[.p (some (ad r4 0)),.p (some (ad r1 0)),.p (some (ad r2 0))]⟩
def Pj[i:Lc (od ao 14 l) L (p,items) f][j:PH (od ao 14 l) (dM p) L (p,items) q F](hl:items.length<1000000)(hv:q.vs.length<1000000)
 (h:∀r1 r3,T W (Sep.pt r3 [.i (items.length:Int)]::Sep.pt r1 [.p (some (ad l 0))]::F (p,items++[x]) {q with vs:=q.vs++[xi r1 r3]}) (K (.i (items.length:Int)))):
 T W L (fb (some ⟨l,0,none⟩) (ao x) K):=by
 refine zF (P:=od ao 14 l) (Q:=dM p) λR hc=>?_;refine nH λb c=>?_;unfold fb;apply ws;intros;refine gY (x:=x) (by simp) rfl rfl (by omega) (by omega) (eV _) λb' c'=>?_;apply ws;intros;refine rE (p:=p) hv rfl rfl ?_;apply ws;intros;rename_i r1 r2 r3 r4;refine T.sub (M:=[Sep.pt r3 _,Sep.pt r1 _]++Sep.pt l _::own b' _ c' 14 _::dM p _::R) ?_ (by repeat (first|exact ad5.refl _|apply ad5.cons_cons|apply ad5.cons));exact sC (by simp) (hc [_,_] _ _ _ (h r1 r3))
def VO[i:Lc (od ao 14 l) L (p,items) f][j:PH (od ao 14 l) (dM p) L (p,items) q F]{n:Nat}(hx:items[n]?=some y)(hl:items.length<1000000)(hv:q.vs.length<1000000)
 (h:∀r4 r1 r2,T W (Sep.pt r4 (ao y)::Sep.pt r2 [.i (n:Int)]::Sep.pt r1 [.p (some (ad l 0))]::F (p,items.set n x) {q with vs:=q.vs++[zY r4 r1 r2]}) (K (.bool true))):
 T W L (gA (some ⟨l,0,none⟩) (n:Int) (ao x) K):=by
 have aZ:=(adS.1 hx).1;refine zF (P:=od ao 14 l) (Q:=dM p) λR hc=>?_;refine nH λb c=>?_;unfold gA
 repeat' first|apply ws;intros|apply wb|with_reducible refine Ph hx hl ?_|fail
 refine bR ⟨by omega,by omega⟩ λr hr=>?_;subst hr;rw[adR];refine cK rfl (mW eY aZ (eV _) ?_);apply ws;intros;refine rE (p:=p) hv rfl rfl ?_;apply ws;intros;rename_i r1 r2 r3 r4;refine T.sub (M:=[Sep.pt r4 _,Sep.pt r2 _,Sep.pt r1 _]++Sep.pt l _::own (some ⟨r,0,none⟩) _ c 14 _::dM p _::R) ?_ (by repeat (first|exact ad5.refl _|apply ad5.cons_cons|apply ad5.cons));exact sC (by simp) (hc [_,_,_] _ _ _ (h r4 r1 r2))
def VP[i:Lc (od ao 14 l) L (p,items) f](hl:items.length<1000000)(h:∀b c,T W (own b items.length c 14 (items.flatMap ao)::L) (K (.l b items.length c))):T W L (gB (some ⟨l,0,none⟩) K):=by
 have hL:f (p,items)=L:=i.same;refine CF (g:=ao) (e:=14) (l:=l) λb c R hc=>?_;unfold gB;apply ws;intros;refine eW (e:=14) ?_;refine nF (b:=none) (l0:=([]:List aP)) (l1:=items) eY rfl (by omega) eV λb' c'=>?_;have:=hc [own b' items.length c' 14 (items.flatMap ao)] b items.length c items _ rfl (by rw[hL];exact h b' c');simpa using this
end
section
variable {W:World} {L R:LH} {K:VK} {X:WK} {l p:Nat} {items:List Kept} {f:Nat×List Kept->LH} {F:Nat×List Kept->Core->LH} {q:Core} {x y:Kept}
def IN[i:Lc (od aI 33 l) L (p,items) f](h:T W L (K (.i (items.length:Int)))):T W L (dj (some ⟨l,0,none⟩) K):=by
 have hL:f (p,items)=L:=i.same;refine CF (g:=aI) (e:=33) (l:=l) λb c R hc=>?_;unfold dj;apply ws;intros;exact hc [] _ _ _ _ _ rfl (by rw[hL];exact h)
def O'{b:OA}{c:Nat}{v:Value}{n:Nat}{f1:LV->LH}{f2:HP->LH}[i:Lc (Sep.pt l) L [.l b items.length c,v] f1][j:oS b items.length c L 33 (items.flatMap aI) f2](hx:items[n]?=some x)(hl:items.length<1000000)
 (h:T W L (K (.tuple ⟨[.agg ⟨aI x⟩,.bool true]⟩))):T W L (bT (some ⟨l,0,none⟩) (n:Int) K):=by
 have aZ:=(adS.1 hx).1;unfold bT;apply ws;intros;refine dX (by simp) ?_;unfold dj;apply ws;intros;unfold bT.j1;refine dX (by simp;omega) ?_;apply ws;intros;refine bR ⟨by omega,by omega⟩ λr hr=>?_;subst hr;rw[adR];refine dy rP hx ?_;apply ws;intros;exact T.dp h
def O9[i:Lc (od aI 33 l) L (p,items) f]{n:Nat}(hx:items[n]?=some x)(hl:items.length<1000000)(h:T W L (K (.tuple ⟨[.agg ⟨aI x⟩,.bool true]⟩))):T W L (bT (some ⟨l,0,none⟩) (n:Int) K):=by
 have hL:f (p,items)=L:=i.same;refine CF (g:=aI) (e:=33) (l:=l) λb c R hc=>?_;refine O' hx hl ?_;exact hc [] _ _ _ _ _ rfl (by rw[hL];exact h)
abbrev qZ(r1 r3:Nat):Value:=.func (.func N.bp) ⟨[]⟩ ⟨[.p (some (ad r1 0)),.p (some (ad r3 0))]⟩
abbrev xh(r4 r1 r2:Nat):Value:=.func (.func N.bn) ⟨[]⟩ ⟨[.p (some (ad r4 0)),.p (some (ad r1 0)),.p (some (ad r2 0))]⟩
def Pa[i:Lc (od aI 33 l) L (p,items) f][j:PH (od aI 33 l) (dM p) L (p,items) q F](hl:items.length<1000000)(hv:q.vs.length<1000000)
 (h:∀r1 r3,T W (Sep.pt r3 [.i (items.length:Int)]::Sep.pt r1 [.p (some (ad l 0))]::F (p,items++[x]) {q with vs:=q.vs++[qZ r1 r3]}) (K (.i (items.length:Int)))):
 T W L (fR (some ⟨l,0,none⟩) (aI x) K):=by
 refine zF (P:=od aI 33 l) (Q:=dM p) λR hc=>?_;refine nH λb c=>?_;unfold fR;apply ws;intros;refine gY (x:=x) (by simp) rfl rfl (by omega) (by omega) (ji _) λb' c'=>?_;apply ws;intros;refine rE (p:=p) hv rfl rfl ?_;apply ws;intros;rename_i r1 r2 r3 r4;refine T.sub (M:=[Sep.pt r3 _,Sep.pt r1 _]++Sep.pt l _::own b' _ c' 33 _::dM p _::R) ?_ (by repeat (first|exact ad5.refl _|apply ad5.cons_cons|apply ad5.cons));exact sC (by simp) (hc [_,_] _ _ _ (h r1 r3))
def VF[i:Lc (od aI 33 l) L (p,items) f][j:PH (od aI 33 l) (dM p) L (p,items) q F]{n:Nat}(hx:items[n]?=some y)(hl:items.length<1000000)(hv:q.vs.length<1000000)
 (h:∀r4 r1 r2,T W (Sep.pt r4 (aI y)::Sep.pt r2 [.i (n:Int)]::Sep.pt r1 [.p (some (ad l 0))]::F (p,items.set n x) {q with vs:=q.vs++[xh r4 r1 r2]}) (K (.bool true))):
 T W L (iL (some ⟨l,0,none⟩) (n:Int) (aI x) K):=by
 have aZ:=(adS.1 hx).1;refine zF (P:=od aI 33 l) (Q:=dM p) λR hc=>?_;refine nH λb c=>?_;unfold iL
 repeat' first|apply ws;intros|apply wb|with_reducible refine O' hx hl ?_|fail
 refine bR ⟨by omega,by omega⟩ λr hr=>?_;subst hr;rw[adR];refine cK rfl (mW rP aZ (ji _) ?_);apply ws;intros;refine rE (p:=p) hv rfl rfl ?_;apply ws;intros;rename_i r1 r2 r3 r4;refine T.sub (M:=[Sep.pt r4 _,Sep.pt r2 _,Sep.pt r1 _]++Sep.pt l _::own (some ⟨r,0,none⟩) _ c 33 _::dM p _::R) ?_ (by repeat (first|exact ad5.refl _|apply ad5.cons_cons|apply ad5.cons));exact sC (by simp) (hc [_,_,_] _ _ _ (h r4 r1 r2))
def VH[i:Lc (od aI 33 l) L (p,items) f](hl:items.length<1000000)(h:∀b c,T W (own b items.length c 33 (items.flatMap aI)::L) (K (.l b items.length c))):T W L (iM (some ⟨l,0,none⟩) K):=by
 have hL:f (p,items)=L:=i.same;refine CF (g:=aI) (e:=33) (l:=l) λb c R hc=>?_;unfold iM;apply ws;intros;refine eW (e:=33) ?_;refine nF (b:=none) (l0:=([]:List Kept)) (l1:=items) rP rfl (by omega) ji λb' c'=>?_;have:=hc [own b' items.length c' 33 (items.flatMap aI)] b items.length c items _ rfl (by rw[hL];exact h b' c');simpa using this
end
def rA(bx:List (Nat×LV)):HP:=zl (bx.map λx=>Sep.pt x.1 x.2)
def St.M7{W w:World}{M R:LH}{A:HP}(h:St W w (zl M::R))(hm:A∈M):∃R',St W w (A::R')/\∀w',St W w' (A::R')->St W w' (zl M::R):=by
 obtain⟨k,hk⟩:=ae' hm;have p:=oP hk;exact⟨M.eraseIdx k++R,(St.ov M R h).perm (p.append_right R),λw' h'=>St.mY M R (h'.perm (p.symm.append_right R))⟩
section
variable {W:World} {L:LH} {K:VK} {X:WK} {r o n:Nat} {cs xs:LV} {v:Value} {bx:List (Nat×LV)} {f:List (Nat×LV)->LH}
def BM(hm:(r,cs)∈bx)[i:Lc rA L bx f]{w:World}(hs:St W w L):∃R,St W w (Sep.pt r cs::R):=by
 obtain⟨k,hk,_⟩:=i.at_;obtain⟨R,h1,_⟩:=St.M7 (M:=bx.map λx=>Sep.pt x.1 x.2) (hs.focus hk) (aeA.2 ⟨(r,cs),hm,rfl⟩);exact⟨R,h1⟩
def oa[i:Lc rA L bx f](hm:(r,cs)∈bx)(hv:cs[o]?=some v)(h:T W L (K v)):T W L (ld ⟨r,o,none⟩ K):=λw hs=>by
 obtain⟨R,hr⟩:=BM hm hs;exact bG hr (k:=0) rfl hv (h w hs)
def Ar[i:Lc rA L bx f](hm:(r,cs)∈bx)(hv:cs[o]?=some v)(h:T W L X):T W L (kp ⟨r,o,none⟩ [v] X):=λw hs=>by
 obtain⟨R,hr⟩:=BM hm hs;exact gw hr (k:=0) rfl hv (h w hs)
def Ao{K:LV->WK}[i:Lc rA L bx f](hm:(r,cs)∈bx)[s:Sub cs o n xs](h:T W L (K xs)):T W L (ah ⟨r,o,none⟩ n K):=λw hs=>by
 obtain⟨R,hr⟩:=BM hm hs;exact fX hr (k:=0) rfl s.is.1 s.is.2 (h w hs)
def cz[i:Lc rA L bx f](h:T W (f ((r,cs)::bx)) X):T W (Sep.pt r cs::L) X:=by
 obtain⟨R,h1,h2⟩:=i.perm;refine T.perm (λw hs=>?_) (h1.cons _);refine T.perm h (h2 _).symm w (St.mY (((r,cs)::bx).map λx=>Sep.pt x.1 x.2) R ?_);exact(St.ov (bx.map λx=>Sep.pt x.1 x.2) (Sep.pt r cs::R) (hs.perm (aeh.swap _ _ _))).perm ae2
end
structure C where
 ag:List aP
 kept:List Kept
 lO:(Nat->Option Int)×Nat
 ef:(Nat->Option Int)×Nat
 stamps:List km
 ends:List Item
 clock:Int
 ae:Int
abbrev wa(a:Nat):Value:=.func (.func N.cj) ⟨[]⟩ ⟨[.p (some (ad a 0))]⟩
abbrev Se(a a2:Nat):Value:=.func (.func N.cm) ⟨[]⟩ ⟨[.p (some (ad a 0)),.p (some (ad a2 0))]⟩
abbrev MC(a a2:Nat):Value:=.func (.func N.cr) ⟨[]⟩ ⟨[.p (some (ad a 0)),.p (some (ad a2 0))]⟩
abbrev Al(a a2 a3:Nat):Value:=.func (.func N.cw) ⟨[]⟩ ⟨[.p (some (ad a 0)),.p (some (ad a2 0)),.p (some (ad a3 0))]⟩
abbrev Hr(a a2:Nat):Value:=.func (.func N.cu) ⟨[]⟩ ⟨[.p (some (ad a 0)),.p (some (ad a2 0))]⟩
abbrev Tr(a a2:Nat):Value:=.func (.func N.cD) ⟨[]⟩ ⟨[.p (some (ad a 0)),.p (some (ad a2 0))]⟩
inductive zi(p la lk:Nat)(bx:List (Nat×LV)):Value->C->C->Prop
 |next {c:C} {a:Nat} {s:Int} (h1:(a,[.pointer (some (ad p 0))])∈bx) (hs:adN.wrap (c.ae-1)=s):zi p la lk bx (wa a) c {c with ae:=s}
 |time {c:C} {a a2:Nat} {t:Int} (h1:(a,[.int .i64 t])∈bx) (h2:(a2,[.pointer (some (ad p 0))])∈bx):zi p la lk bx (Se a a2) c {c with clock:=t}
 |open_ {c:C} {a a2:Nat} {x:aP} {m:(Nat->Option Int)×Nat} (h1:(a,[.pointer (some (ad p 0))])∈bx) (h2:(a2,ao x)∈bx) (hu:c.lO.2<=1000) (hi:(c.lO.1 x.id).isSome=true) (hm:(sj c.lO.1 x.id none,c.lO.2-1)=m):
  zi p la lk bx (MC a a2) c {c with lO:=m}
 |RT {c:C} {a a2 n:Nat} (h1:(a,[.pointer (some (ad la 0))])∈bx) (h2:(a2,[.int .i64 (n:Int)])∈bx) (hn:n<=c.ag.length):zi p la lk bx (xi a a2) c {c with ag:=c.ag.take n}
 |RR {c:C} {a a2 n:Nat} (h1:(a,[.pointer (some (ad lk 0))])∈bx) (h2:(a2,[.int .i64 (n:Int)])∈bx) (hn:n<=c.kept.length):zi p la lk bx (qZ a a2) c {c with kept:=c.kept.take n}
 |P8 {c:C} {a1 a2 a3 n:Nat} {x:aP} (h1:(a1,ao x)∈bx) (h2:(a2,[.pointer (some (ad la 0))])∈bx) (h3:(a3,[.int .i64 (n:Int)])∈bx) (hn:n<c.ag.length):zi p la lk bx (zY a1 a2 a3) c {c with ag:=c.ag.set n x}
 |P7 {c:C} {a1 a2 a3 n:Nat} {x:Kept} (h1:(a1,aI x)∈bx) (h2:(a2,[.pointer (some (ad lk 0))])∈bx) (h3:(a3,[.int .i64 (n:Int)])∈bx) (hn:n<c.kept.length):zi p la lk bx (xh a1 a2 a3) c {c with kept:=c.kept.set n x}
 |JH {c:C} {a a2 a3:Nat} {t:Move} {k:Kept} {l0:List km} {at_:Int} {m:(Nat->Option Int)×Nat} (h1:(a,[.pointer (some (ad p 0))])∈bx) (h2:(a2,ai t)∈bx) (h3:(a3,aI k)∈bx)
  (hu:c.ef.2<=1000) (hi:(c.ef.1 t.id).isSome=true) (hr:oH c.stamps) (hl:c.stamps.length<100000) (hs:c.stamps=l0++[(k.move.ae,at_)]) (hm:(sj c.ef.1 t.id none,c.ef.2-1)=m):
  zi p la lk bx (Al a a2 a3) c {c with ef:=m,stamps:=l0}
 |JF {c:C} {a a2:Nat} {x:Item} {e':List Item} (h1:(a,[.pointer (some (ad p 0))])∈bx) (h2:(a2,dG x)∈bx) (hl:c.ends.length<10000) (he:(x::e').Perm c.ends) (hn:∀y∈e',y.ae≠x.ae):
  zi p la lk bx (Hr a a2) c {c with ends:=e'}
 |end_ {c:C} {a a2:Nat} {x:Item} {e':List Item} (h1:(a,[.pointer (some (ad p 0))])∈bx) (h2:(a2,dG x)∈bx) (hl:c.ends.length<10000) (he:e'.Perm (c.ends++[x])):zi p la lk bx (Tr a a2) c {c with ends:=e'}
def zi.mono{p la lk:Nat}{bx kD:List (Nat×LV)}{v:Value}{c c':C}(h:zi p la lk bx v c c')(hs:∀x∈bx,x∈kD):zi p la lk kD v c c':=by
 cases h with
 |next h1 h2=>exact .next (hs _ h1) h2
 |time h1 h2=>exact .time (hs _ h1) (hs _ h2)
 |open_ h1 h2 h3 h4 h5=>exact .open_ (hs _ h1) (hs _ h2) h3 h4 h5
 |RT h1 h2 h3=>exact .RT (hs _ h1) (hs _ h2) h3
 |RR h1 h2 h3=>exact .RR (hs _ h1) (hs _ h2) h3
 |P8 h1 h2 h3 h4=>exact .P8 (hs _ h1) (hs _ h2) (hs _ h3) h4
 |P7 h1 h2 h3 h4=>exact .P7 (hs _ h1) (hs _ h2) (hs _ h3) h4
 |JH h1 h2 h3 h4 h5 h6 h7 h8 h9=>exact .JH (hs _ h1) (hs _ h2) (hs _ h3) h4 h5 h6 h7 h8 h9
 |JF h1 h2 h3 h4 h5=>exact .JF (hs _ h1) (hs _ h2) h3 h4 h5
 |end_ h1 h2 h3 h4=>exact .end_ (hs _ h1) (hs _ h2) h3 h4
def fZ(p la lk:Nat)(bx:List (Nat×LV)):LV->List C->C->Prop
 |[],[],_=>True
 |v::vs,c'::hs,c=>zi p la lk bx v c c'/\fZ p la lk bx vs hs c'
 |_,_,_=>False
def fZ.mono{p la lk:Nat}{bx kD:List (Nat×LV)}(hs:∀x∈bx,x∈kD):∀{vs:LV} {h:List C} {c:C},fZ p la lk bx vs h c->fZ p la lk kD vs h c
 |[],[],_,_=>trivial
 |v::vs,c'::h,c,hc=>⟨hc.1.mono hs,fZ.mono hs hc.2⟩
def fZ.len{p la lk:Nat}{bx:List (Nat×LV)}:∀{vs:LV} {h:List C} {c:C},fZ p la lk bx vs h c->vs.length=h.length
 |[],[],_,_=>rfl
 |v::vs,c'::h,c,hc=>by simp[fZ.len hc.2]
abbrev dA(la lk ti tn:Nat)(vs:LV)(c:C):Core:=⟨la,lk,ti,tn,vs.reverse,c.stamps,c.ends,c.clock,c.ae⟩
def FB(p la lk ti tn:Nat)(vs:LV)(bx:List (Nat×LV))(c:C)(R:LH):LH:=
 dM p (dA la lk ti tn vs c)::od ao 14 la (p,c.ag)::od aI 33 lk (p,c.kept)::ln ti c.lO::ln tn c.ef::rA bx::R
section
variable {W:World} {R:LH} {K:VK} {X:WK} {p la lk ti tn:Nat} {vs:LV} {bx:List (Nat×LV)} {c c':C} {v:Value}
def Zc:B3:=[(N.cD,cD.u),(N.cw,cw.u),(N.cu,cu.u),(N.cr,cr.u),(N.cm,cm.u),(N.cj,cj.u),(N.aY,aY.u),(N.aX,aX.u),(N.bp,bp.u),(N.bn,bn.u)]
def T.DA{q:Core}{e e':List Item}(he:e.Perm e')(h:T W (dM p {q with ends:=e'}::R) X):T W (dM p {q with ends:=e}::R) X:=
 DB λb1 c1 b2 c2 b3 c3 hp h1 h2=>vK (q:={q with ends:=e'}) h1 (h2.trans he) h
def T.HF{A B:HP}(h:T W (B::A::R) X):T W (A::B::R) X:=T.perm h (aeh.swap _ _ _)
def T.Sp{A B:HP}(h:T W (A::B::R) X):T W (B::A::R) X:=T.perm h (aeh.swap _ _ _)
def T.TS{A B D:HP}(h:T W (D::A::B::R) X):T W (A::B::D::R) X:=T.Sr (R:=R) h
def T.So{A B D:HP}(h:T W (A::B::D::R) X):T W (D::A::B::R) X:=T.Sq (R:=R) h
def CA{x y:Item}{e' e2 e:List Item}(h1:(x::e').Perm e)(h2:(y::e2).Perm e)(hy:y.ae=x.ae)(hn:∀z∈e',z.ae≠x.ae):e2.Perm e':=by
 have:y∈x::e':=h1.mem_iff.2 (h2.mem_iff.1 (by simp));rcases ae9.1 this with rfl|hm
 ·exact(List.perm_cons y).1 (h2.trans h1.symm)
 ·exact absurd hy (hn y hm)
def WQ(hc:zi p la lk bx v c c')(h:T W (FB p la lk ti tn vs bx c' R) (K (.tuple ⟨[]⟩))):T W (FB p la lk ti tn vs bx c R) (tr Zc v [] K):=by
 unfold FB at *;cases hc with
 |next h1 hs=>
  rename_i a s;show T W _ (cj (ad a 0) K);unfold cj
  repeat' first|apply ws;intros|apply wb|with_reducible first|refine oa h1 rfl ?_|refine Ht ?_|fail
  rw[show adN.wrap ((dA la lk ti tn vs c).ae-1)=s from hs];exact h
 |time h1 h2=>
  rename_i a a2 t;show T W _ (cm (ad a 0) (ad a2 0) K);unfold cm
  repeat' first|apply ws;intros|apply wb|with_reducible first|refine oa h2 rfl ?_|refine oa h1 rfl ?_|refine Hu ?_|fail
  exact h
 |open_ h1 h2 h3 h4 h5=>
  rename_i a a2 x m;show T W _ (cr (ad a 0) (ad a2 0) K);unfold cr
  repeat' first|apply ws;intros|apply wb|with_reducible first|refine oa h1 rfl ?_|refine Ar h1 rfl ?_|fail
  refine Ao h2 ?_;refine Pe h3 (λ_=>?_) (λhn=>by rw[hn] at h4;cases h4)
  repeat' first|apply ws;intros|apply wb|with_reducible refine Ar h1 rfl ?_|fail
  rw[h5];exact h
 |RT h1 h2 h3=>
  rename_i a a2 n;show T W _ (aY (ad a 0) (ad a2 0) K);refine T.HF ?_;refine nH λb cc=>?_;unfold aY
  repeat' first|apply ws;intros|apply wb|with_reducible first|refine oa h1 rfl ?_|refine oa h2 rfl ?_|fail
  refine mR (b:=b) λqP _=>?_;refine vj (by omega) ?_;refine wg (b:=b) (i:=n) eY (by omega) ?_;apply ws;intros;exact pR (g:=ao) (e:=14) (by rw[adV];omega) (T.Sp h)
 |RR h1 h2 h3=>
  rename_i a a2 n;show T W _ (bp (ad a 0) (ad a2 0) K);refine T.TS ?_;refine nH λb cc=>?_;unfold bp
  repeat' first|apply ws;intros|apply wb|with_reducible first|refine oa h1 rfl ?_|refine oa h2 rfl ?_|fail
  refine mR (b:=b) λqP _=>?_;refine vj (by omega) ?_;refine wg (b:=b) (i:=n) rP (by omega) ?_;apply ws;intros;exact pR (g:=aI) (e:=33) (by rw[adV];omega) (T.So h)
 |P8 h1 h2 h3 h4=>
  rename_i a1 a2 a3 n x;show T W _ (aX (ad a1 0) (ad a2 0) (ad a3 0) K);refine T.HF ?_;refine nH λb cc=>?_;unfold aX
  repeat' first|apply ws;intros|apply wb|with_reducible first|refine oa h2 rfl ?_|refine oa h3 rfl ?_|fail
  refine Ao h1 ?_;refine bR ⟨by omega,by omega⟩ λr hr=>?_;subst hr;rw[adR];refine cK rfl (mW eY h4 (eV _) ?_);exact pR (g:=ao) (e:=14) (by simp) (T.Sp h)
 |P7 h1 h2 h3 h4=>
  rename_i a1 a2 a3 n x;show T W _ (bn (ad a1 0) (ad a2 0) (ad a3 0) K);refine T.TS ?_;refine nH λb cc=>?_;unfold bn
  repeat' first|apply ws;intros|apply wb|with_reducible first|refine oa h2 rfl ?_|refine oa h3 rfl ?_|fail
  refine Ao h1 ?_;refine bR ⟨by omega,by omega⟩ λr hr=>?_;subst hr;rw[adR];refine cK rfl (mW rP h4 (ji _) ?_);exact pR (g:=aI) (e:=33) (by simp) (T.So h)
 |JH h1 h2 h3 h4 h5 h6 h7 h8 h9=>
  rename_i a a2 a3 t k l0 at_ m;show T W _ (cw (ad a 0) (ad a2 0) (ad a3 0) K);unfold cw
  repeat' first|apply ws;intros|apply wb|with_reducible first|refine oa h1 rfl ?_|refine Ar h1 rfl ?_|fail
  refine Ao h2 ?_;refine Pe h4 (λ_=>?_) (λhn=>by rw[hn] at h5;cases h5)
  repeat' first|apply ws;intros|apply wb|with_reducible first|refine oa h1 rfl ?_|refine Ar h1 rfl ?_|refine oa h3 rfl ?_|fail
  simp only[dW,adU];refine Ox (p:=p) (q:=dA la lk ti tn vs c) h6 (by show c.stamps.length<_;omega) h8 ?_
  repeat' first|apply ws;intros|apply wb|with_reducible refine Ar h1 rfl ?_|fail
  rw[h9];exact h
 |JF h1 h2 h3 h4 h5=>
  rename_i a a2 x e';show T W _ (cu (ad a 0) (ad a2 0) K);unfold cu
  repeat' first|apply ws;intros|apply wb|with_reducible first|refine oa h1 rfl ?_|refine oa h2 rfl ?_|fail
  simp only[dW,adU];refine GH (p:=p) (q:=dA la lk ti tn vs c) h3 (λy e2 hy hp=>?_) (λEg=>absurd rfl (Eg x (h4.mem_iff.1 (by simp))))
  repeat' first|apply ws;intros|apply wb|with_reducible refine Ar h1 rfl ?_|fail
  exact T.DA (CA h4 hp hy h5) h
 |end_ h1 h2 h3 h4=>
  rename_i a a2 x e';show T W _ (cD (ad a 0) (ad a2 0) K);unfold cD
  repeat' first|apply ws;intros|apply wb|with_reducible refine oa h1 rfl ?_|fail
  refine Ao h2 ?_;simp only[dW,adU];refine Ey (p:=p) (q:=dA la lk ti tn vs c) h3 h4 ?_
  repeat' first|apply ws;intros|apply wb|with_reducible refine Ar h1 rfl ?_|fail
  exact h
end
structure ac9 where
 la:Nat
 lk:Nat
 ti:Nat
 tn:Nat
def cP(p:Nat)(x:C×List C):HP:=
 SX λz:ac9×LV×List (Nat×LV)=>LQ (fZ p z.1.la z.1.lk z.2.2 z.2.1 x.2 x.1) (zl (FB p z.1.la z.1.lk z.1.ti z.1.tn z.2.1 z.2.2 x.1 []))
section
variable {W:World} {L R:LH} {K:VK} {X:WK} {p:Nat} {c:C} {hs:List C} {f:C×List C->LH}
def OC(h:∀la lk ti tn vs bx,fZ p la lk bx vs hs c->T W (dM p (dA la lk ti tn vs c)::od ao 14 la (p,c.ag)::od aI 33 lk (p,c.kept)::ln ti c.lO::ln tn c.ef::rA bx::R) X):T W (cP p (c,hs)::R) X:=λw hw=>by
 obtain⟨⟨⟨la,lk,ti,tn⟩,vs,bx⟩,hw⟩:=hw.ex;obtain⟨hc,hw⟩:=hw.and;exact h la lk ti tn vs bx hc w (St.ov _ _ hw)
def z7{la lk ti tn:Nat}{vs:LV}{bx:List (Nat×LV)}(hc:fZ p la lk bx vs hs c)(h:T W (cP p (c,hs)::R) X):
 T W (dM p (dA la lk ti tn vs c)::od ao 14 la (p,c.ag)::od aI 33 lk (p,c.kept)::ln ti c.lO::ln tn c.ef::rA bx::R) X:=λw hw=>
 h w (St.nM (⟨la,lk,ti,tn⟩,vs,bx) (St.and_intro hc (St.mY _ _ hw)))
def t_c[i:Lc (cP p) L (c,hs) f](h:∀la lk ti tn vs bx R,fZ p la lk bx vs hs c->
 (∀M c' cT B1 kD Y,fZ p la lk kD B1 cT c'->T W (M++f (c',cT)) Y->T W (M++dM p (dA la lk ti tn B1 c')::od ao 14 la (p,c'.ag)::od aI 33 lk (p,c'.kept)::ln ti c'.lO::ln tn c'.ef::rA kD::R) Y)->
 T W (dM p (dA la lk ti tn vs c)::od ao 14 la (p,c.ag)::od aI 33 lk (p,c.kept)::ln ti c.lO::ln tn c.ef::rA bx::R) X):T W L X:=
 zE (P:=cP p) λR lY=>OC λla lk ti tn vs bx hc=>h la lk ti tn vs bx R hc λM c' cT B1 kD Y Gn hy=>
  T.perm (z7 (R:=M++R) Gn (T.perm (lY M (c',cT) Y hy) ae2.symm)) (by
   have:=adY (l₁:=M) (l₂:=[dM p (dA la lk ti tn B1 c'),od ao 14 la (p,c'.ag),od aI 33 lk (p,c'.kept),ln ti c'.lO,ln tn c'.ef,rA kD])|>.append_right R
   simpa using this)
def xv{b:OA}{n c e i:Nat}{xs:LV}{f:HP->LH}[j:oS b n c L e xs f](hi:i<=n)(h:T W (f (own b i c e (xs.take (i* e)))) X):T W L X:=λw hs=>by
 obtain⟨k,hk,e1⟩:=j.at_;refine h w ?_;rw[e1];exact St.nE ((hs.focus hk).mono (AT hi)) hk
def MM{r n c e o:Nat}{xs:LV}{v:Value}{f:HP->LH}[j:oS (some ⟨r,0,none⟩) n c L e xs f](hv:xs[o]?=some v)(h:T W L (K v)):T W L (ld ⟨r,o,none⟩ K):=λw hs=>by
 obtain⟨k,hk,_⟩:=j.at_;exact xX hs hk hv (h w hs)
def MP{b:OA}{n c e:Nat}{xs ys:LV}{f:HP->LH}[j:oS b n c L e xs f](hl:ys.length=xs.length)(h1:∀v∈ys,v.oneCell'=true)(h:∀zs,T W (f (own b n c e zs)) X):T W L (RA ys b n X):=λw hs=>by
 obtain⟨k,hk,e1⟩:=j.at_;refine⟨λ_=>h xs w (by rw[e1,jO hk];exact hs),λa ha _=>?_⟩;obtain⟨hlx,h0|⟨r,sp,hb,qP,zt,fj⟩⟩:=hs.lJ hk
 ·rw[h0.1] at ha;cases ha
 ·rw[hb] at ha;cases ha
  obtain⟨hc,qF⟩:=St.vo ys 0 0 fj (fV hk) (by simp;omega) h1;refine⟨hc,h ys _ ?_⟩;rw[ae4,aeL] at qF;have e2:over (xs++sp) 0 ys=ys++sp:=by
   unfold over;rw[aff,aet,adU,hl,List.drop_left' rfl]
  rw[e2] at qF;rw[e1,hb];exact St.xM ((adS.1 hk).1) (by rw[hl];exact hlx) qP zt qF
def qw(n:Nat):C->List C->C×List C
 |c,[]=>(c,[])
 |c,c'::hs=>if n<=hs.length then qw n c' hs else(c,c'::hs)
def zb{n:Nat}(hn:hs.length<=n):qw n c hs=(c,hs):=by
 cases hs with
 |nil=>rfl
 |cons c' hs=>unfold qw;rw[if_neg (by simp at hn;omega)]
def LC{q:Core}{w:World}(h:St W w (dM p q::R)):∃b c,w.cell? ⟨p,0,none⟩=some (.l b q.vs.length c):=by
 obtain⟨⟨⟨b1,c1⟩,⟨b2,c2⟩,⟨b3,c3⟩,hp⟩,hs⟩:=h.ex;obtain⟨_,hs⟩:=hs.and;have:=(St.ov _ _ hs).cell (k:=0) (o:=0) rfl;exact⟨b1,c1,this.1⟩
def V7(p:Nat)(w:World):Nat:=match w.cell? ⟨p,0,none⟩ with|some (.slice _ m _)=>m|_=>0
def Nz{q:Core}{w:World}(h:St W w (dM p q::R)):V7 p w=q.vs.length:=by
 obtain⟨b,cc,e⟩:=LC h;unfold V7;rw[e]
def VN[i:Lc (cP p) L (c,hs) f]{n:Nat}(hl:hs.length<1000000)(h:T W (f (qw n c hs)) (K (.tuple ⟨[]⟩))):T W L (oK (some ⟨p,0,none⟩) (n:Int) K):=by
 refine t_c (p:=p) λla lk ti tn vs bx R hc lY=>?_;unfold oK;refine tM ?_;intro w hw;refine⟨λa w=>∃vs cT c',a=[]/\cT.length<1000000/\fZ p la lk bx vs cT c'/\qw n c' cT=qw n c hs/\St W w (FB p la lk ti tn vs bx c' R),
  λ_ w=>V7 p w,⟨vs,hs,c,rfl,hl,hc,rfl,hw⟩,?_⟩
 rintro w2 ⟨B1,cT,c',-,Hh,Gn,hb,hw⟩;have hmu:V7 p w2=B1.length:=by
  have:=Nz (q:=dA la lk ti tn B1 c') hw;rw[this];simp
 refine T.at ?_ hw;have hlen:=Gn.len;have Q1:max2 (n:Int) 0=n:=by unfold max2;split<;>omega
 rw[Q1];unfold FB;refine mD (p:=p) λb1 c1 b2 c2 b3 c3 hp R2 g1 g2 N3=>?_;unfold fx;have hrl:(dA la lk ti tn B1 c').vs.length=B1.length:=aeM;apply ws;intros;refine dO (λg=>?_) (λg=>?_)
 ·have JS:n<B1.length:=by omega
  match B1,cT,Gn,hlen,Hh,JS with
  |v::tG,Y'::fj,Gn,hlen,Hh,JS=>
  simp only[ad8] at JS Hh hlen;have hrl:(dA la lk ti tn (v::tG) c').vs.length=tG.length+1:=by show(v::tG).reverse.length=_;simp
  have e1:adN.wrap (((dA la lk ti tn (v::tG) c').vs.length:Int) -1)=(tG.length:Int):=by rw[aw (by omega)];omega
  apply ws;intros;rw[e1];refine bR ⟨by omega,by omega⟩ λr hr=>?_;subst hr;rw[adR,afm];refine MM (v:=v) (by simp) ?_;refine N3 [] (dA la lk ti tn (v::tG) c') _ _ _ _ _ _ _ _ g1 g2 ?_;refine WQ (c':=Y') (vs:=v::tG) Gn.1 ?_;unfold FB;refine mD (p:=p) λb1 c1 b2 c2 b3 c3 hp R2 g1 g2 aaU=>?_;unfold fx;apply ws;intros;refine mR (b:=b1) λqP _=>?_;have qP:(dA la lk ti tn (v::tG) c').vs.length<=c1:=qP;refine vj (by omega) ?_;refine xv (b:=b1) (i:=tG.length) (show tG.length<=(dA la lk ti tn (v::tG) c').vs.length by omega) ?_;apply ws;intros;have et:List.take (tG.length* 1) (v::tG).reverse=tG.reverse:=by rw[afm,afk,<-aeM,List.take_left]
  rw[et];have:=aaU [] (dA la lk ti tn tG Y') b1 c1 b2 c2 b3 c3 hp (λw3=>(∃vs cT c',([]:LV)=[]/\cT.length<1000000/\fZ p la lk bx vs cT c'/\qw n c' cT=qw n c hs/\St W w3 (FB p la lk ti tn vs bx c' R))/\V7 p w3<V7 p w2) g1 g2 ?_
  ·unfold fx at this;rw[show(dA la lk ti tn tG Y').vs.length=tG.length from aeM] at this;exact this
  ·intro w3 h3;refine⟨⟨tG,fj,Y',rfl,by omega,Gn.2,?_,h3⟩,?_⟩
   ·rw[<-hb]
    conv=>rhs;unfold qw
    rw[if_pos (by omega)]
   ·have:=Nz (q:=dA la lk ti tn tG Y') h3;rw[this,hmu];simp
 ·have hle:B1.length<=n:=by omega
  rw[zb (by omega)] at hb;rw[<-hb] at h;refine N3 [] (dA la lk ti tn B1 c') _ _ _ _ _ _ _ _ g1 g2 ?_;exact lY [] c' cT B1 bx _ Gn h
def R6[i:Lc (cP p) L (c,hs) f](hl:hs.length<1000000)(h:T W (f (c,[])) (K (.tuple ⟨[]⟩))):T W L (jc (some ⟨p,0,none⟩) K):=by
 refine t_c (p:=p) λla lk ti tn vs bx R hc lY=>?_;have hlen:=hc.len;refine mD (p:=p) λb1 c1 b2 c2 b3 c3 hp R2 g1 g2 N3=>?_;unfold jc fx;apply ws;intros;refine mR (b:=b1) λqP De=>?_;refine MP (b:=b1) (by rw[ku,De];simp) (λv hv=>?_) λzs=>?_
 ·simp only[Builtin.zeroCells,Array.toList_map,aeA] at hv;obtain⟨j,_,rfl⟩:=hv;have:(⟨[Value.nilFunc]⟩:Array Value)[j%(⟨[Value.nilFunc]⟩:Array Value).size]! =.nilFunc:=by
   have:j%(⟨[Value.nilFunc]⟩:Array Value).size=0:=Nat.mod_one j;rw[this];rfl
  rw[this];rfl
 apply ws;intros;refine vj (i:=0) (by omega) ?_;refine xv (b:=b1) (i:=0) (by omega) ?_;apply ws;intros;rw[Nat.zero_mul,aff];refine N3 [] (dA la lk ti tn [] c) b1 c1 b2 c2 b3 c3 hp _ g1 g2 ?_;exact lY [] c [] [] bx _ trivial h
end
end Go.Up
namespace Go.Md
structure Ground(m:Model):Prop where
 zero:∀a∈m.made,a.dp=0/\a.dq=0/\a.cp=0/\a.cq=0/\0<=a.flags/\a.flags<8
 ids:(m.made.map (·.id)).Nodup
 lh:m.made.length<=32
 names:(m.kept.map (·.move.id)).Nodup
 tp:∀k∈m.kept,0<=k.fate/\k.fate<=4/\(has k.move.flags 2↔1<=k.fate)
 tO:∀k∈m.kept,k.move.aE≠k.move.ar/\k.move.aE∈m.made.map (·.id)/\k.move.ar∈m.made.map (·.id)
 some_:m.kept.length<=96
 vJ:∀a∈m.made,S (vU a.id) m.kept+S (yh a.id) m.kept<aK
 sY:∀a∈m.made,S (vV a.id) m.kept+S (yi a.id) m.kept<aK
 qY:∀a∈m.made,S (qo a.id) m.kept<=1
structure l7(b:ax)(m:Model):Prop where
 ag:b.ag=m.made.map (full m.kept)
 kept:b.kept=m.kept
 clock:b.clock=m.clock
 ae:b.ae=m.ae
def Ground.full{m:Model}(h:Ground m){a:aP}(ha:a∈m.made):m.full a=Md.full m.kept a:=by
 obtain⟨h1,h2,h3,h4,_⟩:=h.zero a ha;have d:=h.vJ a ha;have c:=h.sY a ha;exact Ig a m.kept (by omega) (by omega) (by omega) (by omega)
def wZ{l:List aP}{id:Nat}{a:aP}(h:l.find? (λa=>a.id=id)=some a):a∈l/\a.id=id:=
 ⟨aeO h,by simpa using List.find?_some h⟩
def l7.find{b:ax}{m:Model}(h:l7 b m)(id:Nat):b.find id=(m.find id).map (Md.full m.kept):=by
 unfold ax.find Model.find;rw[h.ag,List.find?_map]
 rfl
def Dr(l:List Kept)(k:Kept)(a:aP):full (l++[k]) a=full [k] (full l a):=(y3 a l [k]).symm
def wW(k:Kept)(a:aP):full [k] a={a with dp:=a.dp+vU a.id k,dq:=a.dq+yh a.id k,cp:=a.cp+vV a.id k,cq:=a.cq+yi a.id k,flags:=if gF a.id k then a.flags%8+8 else a.flags}:=by
 unfold full;simp only[nS,ur,aeL]
 congr 1
 unfold qo;by_cases h:gF a.id k
 ·rw[if_pos h,if_pos h,if_neg (by omega)]
 ·rw[if_neg h,if_neg h,if_pos rfl]
def oF(t b:Move):qy t b≠0:=by unfold qy;split<;>decide
def tW{t:Move}{named:Option Kept}{d c:Option aP}{many:Nat}(h:(gL t named d c many).1=0):
 ∃d' c',d=some d'/\c=some c'/\named=none/\kC t=0/\ ¬gr t.flags/\d'.aF=c'.aF/\d'.flags<8/\c'.flags<8/\many<96/\
  d'.dp+d'.dq+(gL t named d c many).2<aK/\c'.cp+c'.cq+(gL t named d c many).2<aK/\
  ¬(has d'.flags 2/\fY d' true<(gL t named d c many).2)/\ ¬(has c'.flags 4/\fY c' false<(gL t named d c many).2):=by
 unfold gL at h⊢;by_cases h1:kC t≠0
 ·rw[if_pos h1] at h;exact absurd h h1
 rw[if_neg h1] at h⊢;by_cases h2:gr t.flags
 ·rw[if_pos h2] at h;exact absurd h (by decide)
 rw[if_neg h2] at h⊢;cases named with
 |some k=>exact absurd h (oF t k.asked)
 |none=>
  cases d with
  |none=>exact absurd h (show ¬(19:Int)=0 by decide)
  |some d=>
   cases c with
   |none=>exact absurd h (show ¬(20:Int)=0 by decide)
   |some c=>
    dsimp only at h⊢;by_cases h3:d.aF≠c.aF
    ·rw[if_pos h3] at h;exact absurd h (by decide)
    rw[if_neg h3] at h⊢;by_cases h4:d.aF≠t.aF
    ·rw[if_pos h4] at h;exact absurd h (by decide)
    rw[if_neg h4] at h⊢;by_cases h5:8<=d.flags
    ·rw[if_pos h5] at h;exact absurd h (by decide)
    rw[if_neg h5] at h⊢;by_cases h6:8<=c.flags
    ·rw[if_pos h6] at h;exact absurd h (by decide)
    rw[if_neg h6] at h⊢;by_cases h7:96<=many
    ·rw[if_pos h7] at h;exact absurd h (by decide)
    rw[if_neg h7] at h⊢;by_cases h8:(bF t d c).2≠0
    ·rw[if_pos h8] at h;exact absurd h h8
    rw[if_neg h8] at h⊢;by_cases h9:(more d true (bF t d c).1 (decide (has t.flags 2))).2≠0
    ·rw[if_pos h9] at h;exact absurd h h9
    rw[if_neg h9] at h⊢;by_cases Rc:(more c false (bF t d c).1 (decide (has t.flags 2))).2≠0
    ·rw[if_pos Rc] at h;exact absurd h Rc
    rw[if_neg Rc];dsimp only;refine⟨d,c,rfl,rfl,rfl,ad4.1 h1,h2,ad4.1 h3,by omega,by omega,by omega,?_,?_,?_,?_⟩
    ·by_cases hh:aK<=d.dp+d.dq+(bF t d c).1
     ·exfalso;apply h9;unfold more;rw[if_pos rfl,if_pos hh];exact(show(32:Int)≠0 by decide)
     ·omega
    ·by_cases hh:aK<=c.cp+c.cq+(bF t d c).1
     ·exfalso;apply Rc;unfold more;rw[if_neg aej,if_pos hh];exact(show(32:Int)≠0 by decide)
     ·omega
    ·intro hh;apply h9;unfold more;rw[if_pos rfl];by_cases h0:aK<=d.dp+d.dq+(bF t d c).1
     ·rw[if_pos h0];exact(show(32:Int)≠0 by decide)
     ·rw[if_neg h0,if_pos hh];exact(show(33:Int)≠0 by decide)
    ·intro hh;apply Rc;unfold more;rw[if_neg aej];by_cases h0:aK<=c.cp+c.cq+(bF t d c).1
     ·rw[if_pos h0];exact(show(32:Int)≠0 by decide)
     ·rw[if_neg h0,if_pos hh];exact(show(34:Int)≠0 by decide)
def m9{l:List aP}(hn:(l.map (·.id)).Nodup){a:aP}(ha:a∈l):l.find? (λx=>x.id=a.id)=some a:=by
 induction l with
 |nil=>simp at ha
 |cons x l ih=>
  simp only[aer,List.nodup_cons] at hn;rcases ae9.1 ha with rfl|ha
  ·simp
  ·rw[List.find?_cons];by_cases hx:x.id=a.id
   ·exact absurd (aeA.2 ⟨a,ha,hx.symm⟩) hn.1
   ·simp only[hx,decide_false];exact ih hn.2 ha
def Ic{a:aP}{k:Kept}(h1:k.move.aE≠a.id)(h2:k.move.ar≠a.id):full [k] a=a:=by
 rw[wW];unfold vU yh vV yi gF;simp[h1,h2]
def zP(a:aP)(b:Bool)(n:Nat)(p:Bool):(more a b n p).1.id=a.id/\(more a b n p).1.ae=a.ae:=by
 unfold more;split<;>split<;>(try exact⟨rfl,rfl⟩)<;>split<;>(try exact⟨rfl,rfl⟩)<;>split<;>exact⟨rfl,rfl⟩
def xg(a:aP)(yes:Prop)[Decidable yes]:(close a yes).id=a.id/\(close a yes).ae=a.ae:=by unfold close;split<;>exact⟨rfl,rfl⟩
def HV{d c x:aP}{t:Move}{n:Nat}{st ck:Int}(UJ:t.aE≠t.ar)(hd:d.id=t.aE)(hc:c.id=t.ar)(nt: ¬gr t.flags)(Pq:d.dp+d.dq+n<aK)(hsc:c.cp+c.cq+n<aK)(hxd:x.id=t.aE->x=d)(hxc:x.id=t.ar->x=c)
 (Gb: ¬(has d.flags 2/\fY d true<n))(qP: ¬(has c.flags 4/\fY c false<n))(q1:has t.flags 64->has t.flags 2)(q2:has t.flags 128->has t.flags 2):
 (λy:aP=>if y.id=(close (more c false n (decide (has t.flags 2))).1 (has t.flags 128)).id then{close (more c false n (decide (has t.flags 2))).1 (has t.flags 128) with ae:=y.ae} else y)
  ((λy:aP=>if y.id=(close (more d true n (decide (has t.flags 2))).1 (has t.flags 64)).id then{close (more d true n (decide (has t.flags 2))).1 (has t.flags 64) with ae:=y.ae} else y) x)
 =full [⟨t,{t with aB:=n,ae:=st,born:=ck},waits t⟩] x:=by
 have i1:(close (more d true n (decide (has t.flags 2))).1 (has t.flags 64)).id=t.aE:=by rw[(xg _ _).1,(zP _ _ _ _).1,hd]
 have i2:(close (more c false n (decide (has t.flags 2))).1 (has t.flags 128)).id=t.ar:=by rw[(xg _ _).1,(zP _ _ _ _).1,hc]
 have s1:(close (more d true n (decide (has t.flags 2))).1 (has t.flags 64)).ae=d.ae:=by rw[(xg _ _).2,(zP _ _ _ _).2]
 have s2:(close (more c false n (decide (has t.flags 2))).1 (has t.flags 128)).ae=c.ae:=by rw[(xg _ _).2,(zP _ _ _ _).2]
 have e4: ¬has t.flags 4:=λh=>nt (.inl h);have e8: ¬has t.flags 8:=λh=>nt (.inr h);dsimp only;rw[i1,i2];by_cases h1:x.id=t.aE
 ·have hx:=hxd h1;subst hx;rw[if_pos h1];rw[if_neg (show ¬t.aE=t.ar from UJ),wW];unfold vU yh vV yi gF ig waits close more;have gS: ¬t.ar=x.id:=λh=>UJ (by rw[h,h1]);simp only[if_true,if_neg (show ¬aK<=x.dp+x.dq+n by omega),if_neg Gb];by_cases hw:has t.flags 2<;>by_cases lY:has t.flags 64<;>(try exact absurd (q1 lY) hw)<;>simp[hw,lY,e8,h1.symm,gS]
 ·rw[if_neg h1];by_cases h2:x.id=t.ar
  ·have hx:=hxc h2;subst hx;rw[if_pos h2,wW];unfold vU yh vV yi gF ig waits close more;have gS: ¬t.aE=x.id:=λh=>h1 h.symm;simp only[aef,if_false,if_neg (show ¬aK<=x.cp+x.cq+n by omega),if_neg qP];by_cases hw:has t.flags 2<;>by_cases lY:has t.flags 128<;>(try exact absurd (q2 lY) hw)<;>simp[hw,lY,e8,h2.symm,gS]
  ·rw[if_neg h2,Ic (λh=>h1 h.symm) (λh=>h2 h.symm)]
def LG{t:Move}(h:kC t=0)(he: ¬gr t.flags):t.aE≠t.ar/\0<=t.flags/\t.flags<=255/\(has t.flags 64->has t.flags 2)/\(has t.flags 128->has t.flags 2):=by
 unfold kC at h;by_cases h1:t.flags<0\/255<t.flags
 ·rw[if_pos h1] at h;exact absurd h (by decide)
 rw[if_neg h1] at h;have ht:fw t.flags:=by
  by_cases h2:t.id=0
  ·rw[if_pos h2] at h;exact absurd h (by decide)
  rw[if_neg h2] at h;by_cases h3:t.id=aK-1
  ·rw[if_pos h3] at h;exact absurd h (by decide)
  rw[if_neg h3] at h;by_cases h4: ¬fw t.flags
  ·rw[if_pos h4] at h;exact absurd h (by decide)
  exact ad4.1 h4
 have Rb:∀b:Int,(b=64\/b=128)->has t.flags b->has t.flags 2:=λb hb hh=>by
  rcases ht.2.2 with h0|h0
  ·unfold has at hh;rcases hb with rfl|rfl<;>omega
  ·exact h0
 refine⟨λUJ=>?_,by omega,by omega,Rb 64 (.inl rfl),Rb 128 (.inr rfl)⟩;by_cases h2:t.id=0
 ·rw[if_pos h2] at h;exact absurd h (by decide)
 rw[if_neg h2] at h;by_cases h3:t.id=aK-1
 ·rw[if_pos h3] at h;exact absurd h (by decide)
 rw[if_neg h3] at h;by_cases h4: ¬fw t.flags
 ·rw[if_pos h4] at h;exact absurd h (by decide)
 rw[if_neg h4] at h;by_cases h5:t.ae≠0\/t.born≠0
 ·rw[if_pos h5] at h;exact absurd h (by decide)
 rw[if_neg h5] at h;by_cases h6:t.timeout<0\/1073741824<t.timeout\/0<t.timeout/\ ¬has t.flags 2
 ·rw[if_pos h6] at h;exact absurd h (by decide)
 rw[if_neg h6,if_neg he] at h;by_cases h7:t.aE=0
 ·rw[if_pos h7] at h;exact absurd h (by decide)
 rw[if_neg h7] at h;by_cases h8:t.ar=0
 ·rw[if_pos h8] at h;exact absurd h (by decide)
 rw[if_neg h8,if_pos UJ] at h;exact absurd h (by decide)
def Bp{l:List Kept}{a:aP}(h0:0<=a.flags)(h:(full l a).flags<8):S (qo a.id) l=0:=by
 by_cases hs:S (qo a.id) l=0
 ·exact hs
 ·exfalso;have e:(full l a).flags=a.flags%8+8:=if_neg hs;rw[e] at h;omega
def l7.D8{b:ax}{m:Model}(h:l7 b m)(id:Nat):b.named id=m.named id:=by unfold ax.named Model.named;rw[h.kept]
def Ground.N'{m:Model}(h:Ground m)(id:Nat):(m.find id).map m.full=(m.find id).map (Md.full m.kept):=by
 cases hf:m.find id with
 |none=>rfl
 |some a=>rw[aeB,aeB,h.full (wZ hf).1]
def Ground.one{m:Model}(h:Ground m){id:Nat}{d:aP}(hf:(m.find id).map (Md.full m.kept)=some d){a:aP}(ha:a∈m.made)(Hk:a.id=id):Md.full m.kept a=d:=by
 have:=m9 h.ids ha;rw[Hk] at this;unfold Model.find at hf;rw[this] at hf;simpa using hf
def l7.move{b:ax}{m:Model}{t:Move}(hs:l7 b m)(hg:Ground m):(b.move t).1=(m.move t).1/\l7 (b.move t).2 (m.move t).2/\Ground (m.move t).2:=by
 have e:gL t (b.named t.id) (b.find t.aE) (b.find t.ar) b.kept.length=gL t (m.named t.id) ((m.find t.aE).map m.full) ((m.find t.ar).map m.full) m.kept.length:=by
  rw[hs.D8,hs.find,hs.find,hg.N',hg.N',hs.kept]
 unfold ax.move Model.move;dsimp only;rw[e];by_cases hr:(gL t (m.named t.id) ((m.find t.aE).map m.full) ((m.find t.ar).map m.full) m.kept.length).1≠0
 ·rw[if_pos hr,if_pos hr];exact⟨rfl,hs,hg⟩
 rw[if_neg hr,if_neg hr];have Um:=ad4.1 hr;obtain⟨d,c,hd,hc,hn,pv,nt,hlg,SK,SM,rS,Pq,hsc,Gb,qP⟩:=tW Um;generalize (gL t (m.named t.id) ((m.find t.aE).map m.full) ((m.find t.ar).map m.full) m.kept.length).2=n at *;obtain⟨UJ,adF,adE,hq1,QY⟩:=LG pv nt;rw[hg.N'] at hd hc;have ZR:b.find t.aE=some d:=by rw[hs.find];exact hd
 have ZS:b.find t.ar=some c:=by rw[hs.find];exact hc
 obtain⟨d0,Wg,rfl⟩:=Option.map_eq_some_iff.1 hd;obtain⟨c0,hc0,rfl⟩:=Option.map_eq_some_iff.1 hc;obtain⟨Ei,EW⟩:=wZ Wg;obtain⟨Mj,Ej⟩:=wZ hc0;refine⟨rfl,⟨?_,?_,?_,?_⟩,?_⟩
 ·unfold ax.yL;rw[ZR,ZS];show((b.ag.map _).map _)=m.made.map (Md.full (m.kept++[_]));rw[hs.ag,afr,afr];apply ae7;intro a ha;rw[Dr];exact HV (d:=Md.full m.kept d0) (c:=Md.full m.kept c0) (x:=Md.full m.kept a) UJ EW Ej nt Pq hsc (λhx=>hg.one hd ha hx) (λhx=>hg.one hc ha hx) Gb qP hq1 QY
 ·unfold ax.yL;rw[ZR,ZS];show b.kept++[(⟨t,{{t with aB:=n} with ae:=b.ae+1,born:=b.clock},waits t⟩:Kept)]=m.kept++[_];rw[hs.kept,hs.ae,hs.clock]
 ·unfold ax.yL;rw[ZR,ZS];exact hs.clock
 ·unfold ax.yL;rw[ZR,ZS];show b.ae+1=m.ae+1;rw[hs.ae]
 ·have hdz:=hg.zero d0 Ei;have hcz:=hg.zero c0 Mj;have hle:∀id(k:Kept),k.move.aE=t.aE->k.move.aB=n->k.move.flags=t.flags->k.fate=waits t->vU id k+yh id k<=if t.aE=id then n else 0:=λid k e1 e2 e3 e4=>by
   have hx:k.fate=1-> ¬ig k:=λh1 h2=>by
    rw[e4] at h1;unfold waits at h1;by_cases h3:has t.flags 2
    ·exact h2.1 (by rw[e3];exact h3)
    ·rw[if_neg h3] at h1;exact absurd h1 (by decide)
   unfold vU yh;rw[e1,e2];by_cases h1:t.aE=id
   ·by_cases h2:k.fate=1
    ·simp[h1,h2,hx h2]
    ·simp[h1,h2];split<;>omega
   ·simp[h1]
  have aaC:∀id(k:Kept),k.move.ar=t.ar->k.move.aB=n->k.move.flags=t.flags->k.fate=waits t->vV id k+yi id k<=if t.ar=id then n else 0:=λid k e1 e2 e3 e4=>by
   have hx:k.fate=1-> ¬ig k:=λh1 h2=>by
    rw[e4] at h1;unfold waits at h1;by_cases h3:has t.flags 2
    ·exact h2.1 (by rw[e3];exact h3)
    ·rw[if_neg h3] at h1;exact absurd h1 (by decide)
   unfold vV yi;rw[e1,e2];by_cases h1:t.ar=id
   ·by_cases h2:k.fate=1
    ·simp[h1,h2,hx h2]
    ·simp[h1,h2];split<;>omega
   ·simp[h1]
  refine⟨hg.zero,hg.ids,hg.lh,?_,λk hk=>?_,λk hk=>?_,?_,λa ha=>?_,λa ha=>?_,λa ha=>?_⟩
  ·show((m.kept++[_]).map _).Nodup;rw[aen,List.nodup_append];refine⟨hg.names,by simp,λx hx y hy=>?_⟩;simp only[aer,afp,List.mem_singleton] at hy;obtain⟨k,hk,rfl⟩:=aeA.1 hx;intro Wa;unfold Model.named at hn;have:=afb.1 hn k hk;simp[Wa,hy] at this
  ·rcases aeu.1 hk with hk|hk
   ·exact hg.tp k hk
   ·simp only[List.mem_singleton] at hk;subst hk;unfold waits;by_cases h2:has t.flags 2
    ·simp only[if_pos h2];exact⟨by decide,by decide,by simp[h2]⟩
    ·simp only[if_neg h2];exact⟨by decide,by decide,by simp[h2]⟩
  ·rcases aeu.1 hk with hk|hk
   ·exact hg.tO k hk
   ·simp only[List.mem_singleton] at hk;subst hk;exact⟨UJ,aeA.2 ⟨d0,Ei,EW⟩,aeA.2 ⟨c0,Mj,Ej⟩⟩
  ·show(m.kept++[_]).length<=96;rw[adT,afd];omega
  ·show S (vU a.id) (m.kept++[_])+S (yh a.id) (m.kept++[_])<aK;rw[rD,rD];generalize hK:Kept.mk t _ (waits t)=K;have h1:=hle a.id K (by rw[<-hK]) (by rw[<-hK]) (by rw[<-hK]) (by rw[<-hK]);have h2:=hg.vJ a ha;by_cases UP:t.aE=a.id
   ·rw[if_pos UP] at h1;have h3:=hg.one hd ha UP.symm;rw[<-h3] at Pq;have h4:=hg.zero a ha;have e1:(Md.full m.kept a).dp=a.dp+S (vU a.id) m.kept:=rfl;have e2:(Md.full m.kept a).dq=a.dq+S (yh a.id) m.kept:=rfl;omega
   ·rw[if_neg UP] at h1;omega
  ·show S (vV a.id) (m.kept++[_])+S (yi a.id) (m.kept++[_])<aK;rw[rD,rD];generalize hK:Kept.mk t _ (waits t)=K;have h1:=aaC a.id K (by rw[<-hK]) (by rw[<-hK]) (by rw[<-hK]) (by rw[<-hK]);have h2:=hg.sY a ha;by_cases UP:t.ar=a.id
   ·rw[if_pos UP] at h1;have h3:=hg.one hc ha UP.symm;rw[<-h3] at hsc;have e1:(Md.full m.kept a).cp=a.cp+S (vV a.id) m.kept:=rfl;have e2:(Md.full m.kept a).cq=a.cq+S (yi a.id) m.kept:=rfl;omega
   ·rw[if_neg UP] at h1;omega
  ·show S (qo a.id) (m.kept++[_])<=1;rw[rD];have h2:=hg.qY a ha;generalize hK:Kept.mk t _ (waits t)=K;by_cases lY:gF a.id K
   ·have h3:qo a.id K=1:=if_pos lY;have h0:S (qo a.id) m.kept=0:=by
     rcases lY.1 with⟨_,hh⟩|⟨_,hh⟩
     ·rw[<-hK] at hh;have:=hg.one hd ha (show a.id=t.aE from hh.symm);rw[<-this] at SK;exact Bp (hg.zero a ha).2.2.2.2.1 SK
     ·rw[<-hK] at hh;have:=hg.one hc ha (show a.id=t.ar from hh.symm);rw[<-this] at SM;exact Bp (hg.zero a ha).2.2.2.2.1 SM
    omega
   ·have h3:qo a.id K=0:=if_neg lY;omega
def modify_eq{α:Type}(f:α->α):∀(l:List α)(i:Nat)(h:i<l.length),l.modify i f=l.set i (f l[i])
 |[],i,h=>by simp at h
 |x::l,0,h=>by simp[List.modify]
 |x::l,i+1,h=>by
  have:=modify_eq f l i (by simpa using h);simp[List.modify_succ_cons,this]
def ended{l:List Kept}{i:Nat}(hi:i<l.length){f:Int}(h1:l[i].fate=1)(hw:has l[i].move.flags 2)(hf:f=2\/f=3\/f=4)(id:Nat):
 S (vU id) (l.set i {l[i] with fate:=f})+(if l[i].move.aE=id then l[i].move.aB else 0)=S (vU id) l/\
 S (vV id) (l.set i {l[i] with fate:=f})+(if l[i].move.ar=id then l[i].move.aB else 0)=S (vV id) l/\
 S (yh id) (l.set i {l[i] with fate:=f})=S (yh id) l/\S (yi id) (l.set i {l[i] with fate:=f})=S (yi id) l/\
 S (qo id) (l.set i {l[i] with fate:=f})+(if f≠2/\(has l[i].move.flags 64/\l[i].move.aE=id\/has l[i].move.flags 128/\l[i].move.ar=id) then 1 else 0)=S (qo id) l:=by
 have a1:=DF (vU id) l i {l[i] with fate:=f} hi;have a2:=DF (vV id) l i {l[i] with fate:=f} hi;have a3:=DF (yh id) l i {l[i] with fate:=f} hi;have a4:=DF (yi id) l i {l[i] with fate:=f} hi;have a5:=DF (qo id) l i {l[i] with fate:=f} hi;have b1:vU id {l[i] with fate:=f}=0:=by unfold vU;rw[if_neg (by rintro⟨hh,_⟩;dsimp only at hh;omega)]
 have b2:vV id {l[i] with fate:=f}=0:=by unfold vV;rw[if_neg (by rintro⟨hh,_⟩;dsimp only at hh;omega)]
 have b3:yh id {l[i] with fate:=f}=yh id l[i]:=rfl;have b4:yi id {l[i] with fate:=f}=yi id l[i]:=rfl;have c1:vU id l[i]=if l[i].move.aE=id then l[i].move.aB else 0:=by
  unfold vU;by_cases h:l[i].move.aE=id
  ·rw[if_pos ⟨h1,h⟩,if_pos h]
  ·rw[if_neg (λhh=>h hh.2),if_neg h]
 have c2:vV id l[i]=if l[i].move.ar=id then l[i].move.aB else 0:=by
  unfold vV;by_cases h:l[i].move.ar=id
  ·rw[if_pos ⟨h1,h⟩,if_pos h]
  ·rw[if_neg (λhh=>h hh.2),if_neg h]
 rw[b1,c1] at a1;rw[b2,c2] at a2;rw[b3] at a3;rw[b4] at a4;refine⟨by omega,by omega,by omega,by omega,?_⟩;by_cases lY:has l[i].move.flags 64/\l[i].move.aE=id\/has l[i].move.flags 128/\l[i].move.ar=id
 ·have d1:qo id l[i]=1:=if_pos ⟨lY,.inl h1⟩;by_cases zR:f=2
  ·have d2:qo id {l[i] with fate:=f}=1:=if_pos ⟨lY,.inr zR⟩;rw[if_neg (λhh=>hh.1 zR)];omega
  ·have d2:qo id {l[i] with fate:=f}=0:=if_neg (by rintro⟨_,hh⟩;dsimp only at hh;omega);rw[if_pos ⟨zR,lY⟩];omega
 ·have d1:qo id l[i]=0:=if_neg (λhh=>lY hh.1);have d2:qo id {l[i] with fate:=f}=0:=if_neg (λhh=>lY hh.1);rw[if_neg (λhh=>lY hh.2)];omega
def DT(d:aP)(p:Move)(n:Nat)(f:Int):(vx d p n f).id=d.id/\(vx d p n f).ae=d.ae:=by unfold vx open_;split<;>(try exact⟨rfl,rfl⟩);split<;>exact⟨rfl,rfl⟩
def DU(d:aP)(p:Move)(n:Nat)(f:Int):(wv d p n f).id=d.id/\(wv d p n f).ae=d.ae:=by unfold wv open_;split<;>(try exact⟨rfl,rfl⟩);split<;>exact⟨rfl,rfl⟩
def Fx{l:List Kept}{i:Nat}(hi:i<l.length){f:Int}{n:Nat}{a:aP}(h1:l[i].fate=1)(hw:has l[i].move.flags 2)(hf:f=2\/f=3\/f=4)(gS:l[i].move.aE≠l[i].move.ar)(ha0:0<=a.flags)(ha8:a.flags<8)(lY:S (qo a.id) l<=1)
 {d c:aP}(hd:d.id=l[i].move.aE)(hc:c.id=l[i].move.ar)(hxd:a.id=l[i].move.aE->full l a=d)(hxc:a.id=l[i].move.ar->full l a=c):
 (λy:aP=>if y.id=(wv c l[i].move n f).id then{wv c l[i].move n f with ae:=y.ae} else y) ((λy:aP=>if y.id=(vx d l[i].move n f).id then{vx d l[i].move n f with ae:=y.ae} else y) (full l a))
 ={full (l.set i {l[i] with fate:=f}) a with dq:=(full l a).dq+(if f=2/\l[i].move.aE=a.id then n else 0),cq:=(full l a).cq+(if f=2/\l[i].move.ar=a.id then n else 0)}:=by
 have Hk:(full l a).id=a.id:=rfl;obtain⟨e1,e2,e3,e4,e5⟩:=ended hi h1 hw hf a.id;dsimp only;rw[(DU c _ n f).1,(DT d _ n f).1,hd,hc];generalize hk:l[i]=k at *;generalize hl:l.set i {k with fate:=f}=l' at *;by_cases Li:a.id=k.move.aE
 ·have hx:=hxd Li;rw[if_pos (show(full l a).id=k.move.aE by rw[Hk];exact Li),if_neg (show ¬k.move.aE=k.move.ar from gS),<-hx];have Ux: ¬k.move.ar=a.id:=λhh=>gS (by rw[hh,Li]);rw[if_pos Li.symm] at e1;rw[if_neg Ux] at e2;unfold vx open_ full;dsimp only;by_cases h2:f=2
  ·subst h2;simp only[if_true,true_and,Li.symm,Ux,if_false,aeL];rw[if_neg (by rintro⟨hh,_⟩;exact hh rfl)] at e5;have:S (qo a.id) l'=S (qo a.id) l:=by omega
   simp only[this,e3,e4]
   congr 1<;>omega
  ·have hb:∀p:Prop,¬(f=2/\p):=λp hh=>h2 hh.1;rw[if_neg h2,if_neg (hb _),if_neg (hb _)];by_cases Rb:has k.move.flags 64
   ·rw[if_pos ⟨h2,.inl ⟨Rb,Li.symm⟩⟩] at e5;have z1:S (qo a.id) l'=0:=by omega
    have z2: ¬S (qo a.id) l=0:=by omega
    simp only[z1,z2,Rb,if_true,if_false,e3,e4]
    congr 1<;>omega
   ·rw[if_neg (by rintro⟨_,hh|hh⟩;exact Rb hh.1;exact Ux hh.2)] at e5;have:S (qo a.id) l'=S (qo a.id) l:=by omega
    simp only[this,Rb,if_false,e3,e4]
    congr 1<;>omega
 ·rw[if_neg (show ¬(full l a).id=k.move.aE by rw[Hk];exact Li)];have K9: ¬k.move.aE=a.id:=λhh=>Li hh.symm;by_cases JT:a.id=k.move.ar
  ·have hx:=hxc JT;rw[if_pos (show(full l a).id=k.move.ar by rw[Hk];exact JT),<-hx];rw[if_neg K9] at e1;rw[if_pos JT.symm] at e2;unfold wv open_ full;dsimp only;by_cases h2:f=2
   ·subst h2;simp only[if_true,true_and,JT.symm,K9,if_false,aeL];rw[if_neg (by rintro⟨hh,_⟩;exact hh rfl)] at e5;have:S (qo a.id) l'=S (qo a.id) l:=by omega
    simp only[this,e3,e4]
    congr 1<;>omega
   ·have hb:∀p:Prop,¬(f=2/\p):=λp hh=>h2 hh.1;rw[if_neg h2,if_neg (hb _),if_neg (hb _)];by_cases Ib:has k.move.flags 128
    ·rw[if_pos ⟨h2,.inr ⟨Ib,JT.symm⟩⟩] at e5;have z1:S (qo a.id) l'=0:=by omega
     have z2: ¬S (qo a.id) l=0:=by omega
     simp only[z1,z2,Ib,if_true,if_false,e3,e4]
     congr 1<;>omega
    ·rw[if_neg (by rintro⟨_,hh|hh⟩;exact K9 hh.2;exact Ib hh.1)] at e5;have:S (qo a.id) l'=S (qo a.id) l:=by omega
     simp only[this,Ib,if_false,e3,e4]
     congr 1<;>omega
  ·rw[if_neg (show ¬(full l a).id=k.move.ar by rw[Hk];exact JT)];have Uy: ¬k.move.ar=a.id:=λhh=>JT hh.symm;rw[if_neg K9] at e1;rw[if_neg Uy] at e2;rw[if_neg (by rintro⟨_,hh|hh⟩;exact K9 hh.2;exact Uy hh.2)] at e5;have:S (qo a.id) l'=S (qo a.id) l:=by omega
   unfold full;simp only[this,K9,Uy,and_false,if_false,aeL,e3,e4]
   congr 1<;>omega
def y5{l:List Kept}{p:Kept->Bool}:l.find? p=(l.findIdx? p).bind λi=>l[i]?:=by
 induction l with
 |nil=>rfl
 |cons x l ih=>
  rw[List.find?_cons,List.findIdx?_cons];cases hp:p x with
  |true=>rfl
  |false=>
   simp only[ih];cases l.findIdx? p with
   |none=>rfl
   |some i=>simp
def l7.make{b:ax}{m:Model}{a:aP}(hs:l7 b m)(hg:Ground m):(b.make a).1=(m.make a).1/\l7 (b.make a).2 (m.make a).2/\Ground (m.make a).2:=by
 unfold ax.make Model.make;by_cases h1:qG a≠0
 ·rw[if_pos h1,if_pos h1];exact⟨rfl,hs,hg⟩
 rw[if_neg h1,if_neg h1,hs.find];cases hf:m.find a.id with
 |some x=>
  refine⟨?_,hs,hg⟩;show rB a (Md.full m.kept x)=rB a x;have hz:=hg.zero x (wZ hf).1;unfold rB Md.full;dsimp only;have:(if S (qo x.id) m.kept=0 then x.flags else x.flags%8+8)/2%4=x.flags/2%4:=by split<;>omega
  rw[this]
 |none=>
  have hlen:b.ag.length=m.made.length:=by rw[hs.ag,aeg]
  dsimp only[Option.map_none];rw[hlen];by_cases h2:32<=m.made.length
  ·rw[if_pos h2,if_pos h2];exact⟨rfl,hs,hg⟩
  rw[if_neg h2,if_neg h2];have pv:=ad4.1 h1;have kM:∀x∈m.made,x.id≠a.id:=λx hx=>by
   have:=afb.1 hf x hx;simpa using this
  have hc:0<=a.flags/\a.flags<=7/\a.dp=0/\a.dq=0/\a.cp=0/\a.cq=0:=by
   unfold qG at pv;by_cases c1:a.flags<0\/7<a.flags
   ·rw[if_pos c1] at pv;exact absurd pv (by decide)
   rw[if_neg c1] at pv;by_cases c2:a.id=0
   ·rw[if_pos c2] at pv;exact absurd pv (by decide)
   rw[if_neg c2] at pv;by_cases c3:a.id=aK-1
   ·rw[if_pos c3] at pv;exact absurd pv (by decide)
   rw[if_neg c3] at pv;by_cases c4:has a.flags 2/\has a.flags 4
   ·rw[if_pos c4] at pv;exact absurd pv (by decide)
   rw[if_neg c4] at pv;by_cases c5:a.dp≠0\/a.dq≠0\/a.cp≠0\/a.cq≠0\/a.ae≠0
   ·rw[if_pos c5] at pv;exact absurd pv (by decide)
   omega
  have z:∀k∈m.kept,k.move.aE≠a.id/\k.move.ar≠a.id:=λk hk=>by
   obtain⟨_,s1,s2⟩:=hg.tO k hk;obtain⟨x,hx,hxe⟩:=aeA.1 s1;obtain⟨y,hy,hye⟩:=aeA.1 s2;exact⟨λh=>kM x hx (by rw[hxe,h]),λh=>kM y hy (by rw[hye,h])⟩
  have S0:∀f:Kept->Nat,(∀k∈m.kept,f k=0)->S f m.kept=0:=λf hf=>by
   have:∀l:List Kept,(∀k∈l,f k=0)->S f l=0:=λl=>by
    induction l with
    |nil=>intro _;rfl
    |cons x l ih=>intro h;rw[nS,h x (by simp),ih λk hk=>h k (by simp[hk])]
   exact this _ hf
  have z1:S (vU a.id) m.kept=0:=S0 _ λk hk=>if_neg (λhh=>(z k hk).1 hh.2);have z2:S (vV a.id) m.kept=0:=S0 _ λk hk=>if_neg (λhh=>(z k hk).2 hh.2);have z3:S (yh a.id) m.kept=0:=S0 _ λk hk=>if_neg (λhh=>(z k hk).1 hh.2);have z4:S (yi a.id) m.kept=0:=S0 _ λk hk=>if_neg (λhh=>(z k hk).2 hh.2);have z5:S (qo a.id) m.kept=0:=S0 _ λk hk=>if_neg (λhh=>by
   rcases hh.1 with h|h
   ·exact(z k hk).1 h.2
   ·exact(z k hk).2 h.2)
  refine⟨rfl,⟨?_,hs.kept,hs.clock,by show b.ae+1=m.ae+1;rw[hs.ae]⟩,?_⟩
  ·show b.ag++[_]=(m.made++[_]).map (Md.full m.kept);rw[aen,hs.ag,hs.ae]
   congr 1
   simp only[aer,afp]
   congr 1
   unfold Md.full;dsimp only;rw[z1,z2,z3,z4,z5,if_pos rfl];simp
  ·have key:∀x∈m.made++[({a with ae:=m.ae+1,flags:=a.flags/2* 2}:aP)],x∈m.made\/x={a with ae:=m.ae+1,flags:=a.flags/2* 2}:=λx hx=>by
    rcases aeu.1 hx with h|h
    ·exact .inl h
    ·exact .inr (by simpa using h)
   refine⟨λx hx=>?_,?_,?_,hg.names,hg.tp,λk hk=>?_,hg.some_,λx hx=>?_,λx hx=>?_,λx hx=>?_⟩
   ·rcases key x hx with h|rfl
    ·exact hg.zero x h
    ·exact⟨hc.2.2.1,hc.2.2.2.1,hc.2.2.2.2.1,hc.2.2.2.2.2,by show 0<=a.flags/2* 2;omega,by show a.flags/2* 2<8;omega⟩
   ·show((m.made++[_]).map _).Nodup;rw[aen,List.nodup_append];refine⟨hg.ids,by simp,λx hx y hy=>?_⟩;simp only[aer,afp,List.mem_singleton] at hy;obtain⟨u,hu,rfl⟩:=aeA.1 hx;rw[hy];exact kM u hu
   ·show(m.made++[_]).length<=32;rw[adT,afd];omega
   ·obtain⟨s0,s1,s2⟩:=hg.tO k hk;refine⟨s0,?_,?_⟩
    ·show _∈(m.made++[_]).map _;rw[aen];exact List.mem_append_left _ s1
    ·show _∈(m.made++[_]).map _;rw[aen];exact List.mem_append_left _ s2
   ·rcases key x hx with h|rfl
    ·exact hg.vJ x h
    ·show S (vU a.id) m.kept+S (yh a.id) m.kept<aK;rw[z1,z3];decide
   ·rcases key x hx with h|rfl
    ·exact hg.sY x h
    ·show S (vV a.id) m.kept+S (yi a.id) m.kept<aK;rw[z2,z4];decide
   ·rcases key x hx with h|rfl
    ·exact hg.qY x h
    ·show S (qo a.id) m.kept<=1;rw[z5];decide
def Model.Ny{m:Model}{id:Nat}{k:Kept}(h:m.named id=some k):∃i,m.name id=some i/\∃hi:i<m.kept.length,m.kept[i]=k/\k.move.id=id:=by
 unfold Model.named at h;rw[y5] at h;unfold Model.name;cases hx:m.kept.findIdx? (λk=>decide (k.move.id=id)) with
 |none=>rw[hx] at h;cases h
 |some i=>
  rw[hx] at h;simp only[Option.bind_some] at h;obtain⟨hi,hk⟩:=adS.1 h;refine⟨i,rfl,hi,hk,?_⟩;have:=(List.findIdx?_eq_some_iff_getElem.1 hx);obtain⟨_,hp,_⟩:=this;rw[hk] at hp;simpa using hp
def Model.KW{m:Model}{id:Nat}(h:m.named id=none):m.name id=none:=by
 unfold Model.named at h;rw[y5] at h;unfold Model.name;cases hx:m.kept.findIdx? (λk=>decide (k.move.id=id)) with
 |none=>rfl
 |some i=>
  rw[hx] at h;simp only[Option.bind_some] at h;have:=(List.findIdx?_eq_some_iff_getElem.1 hx).1;rw[adQ this] at h;cases h
def KV{l:List Kept}(hn:(l.map (·.move.id)).Nodup){i j:Nat}(hi:i<l.length)(hj:j<l.length)(h:l[i].move.id=l[j].move.id):i=j:=by
 have e1:(l.map (·.move.id))[i]?=some (l[i].move.id):=by rw[aeD,adQ hi];rfl
 have e2:(l.map (·.move.id))[j]?=some (l[i].move.id):=by rw[aeD,adQ hj,h];rfl
 exact(List.getElem?_inj (by simpa using hi) hn).1 (e1.trans e2.symm)
def Gw{l:List Kept}(hn:(l.map (·.move.id)).Nodup){i:Nat}(hi:i<l.length)(h1:l[i].fate=1)(f:Int):(l.map λk=>if k.move.id=l[i].move.id/\k.fate=1 then{k with fate:=f} else k)=l.set i {l[i] with fate:=f}:=by
 apply afa;intro j;rw[aeD,aem];by_cases Hj:i=j
 ·subst Hj;rw[adQ hi,if_pos rfl,if_pos hi,aeB,if_pos ⟨rfl,h1⟩]
 ·rw[if_neg Hj];cases hj:l[j]? with
  |none=>rfl
  |some k=>
   obtain⟨NV,hk⟩:=adS.1 hj;rw[aeB,if_neg];rintro⟨hh,_⟩;rw[<-hk] at hh;exact Hj (KV hn hi NV hh.symm)
def ou{m:Model}{i:Nat}(hi:i<m.kept.length)(f:Int):(m.cI i f).kept=m.kept.set i {m.kept[i] with fate:=f}:=by
 unfold Model.cI;rw[modify_eq _ _ _ hi]
def Ground.cI{m:Model}(hg:Ground m){i:Nat}(hi:i<m.kept.length)(h1:m.kept[i].fate=1){f:Int}(hf:f=2\/f=3\/f=4):Ground (m.cI i f):=by
 have hk:=ou (m:=m) hi f;have ml:=aee hi;have hw:has m.kept[i].move.flags 2:=(hg.tp _ ml).2.2.2 (by omega);have adf:(m.cI i f).made=m.made:=rfl;have key:∀k∈(m.cI i f).kept,∃k0∈m.kept,k.move=k0.move/\k.asked=k0.asked/\(k=k0\/k.fate=f/\k0.fate=1):=λk JR=>by
  rw[hk] at JR;rcases aeG JR with h|h
  ·exact⟨k,h,rfl,rfl,.inl rfl⟩
  ·subst h;exact⟨m.kept[i],ml,rfl,rfl,.inr ⟨rfl,h1⟩⟩
 refine⟨hg.zero,hg.ids,hg.lh,?_,λk JR=>?_,λk JR=>?_,?_,λa ha=>?_,λa ha=>?_,λa ha=>?_⟩
 ·rw[hk,List.map_set];have:m.kept[i].move.id=(m.kept.map (·.move.id))[i]'(by simpa using hi):=by simp
  have e:(m.kept.map (·.move.id)).set i ({m.kept[i] with fate:=f}:Kept).move.id=m.kept.map (·.move.id):=by
   show(m.kept.map (·.move.id)).set i m.kept[i].move.id=_;rw[this,List.set_getElem_self]
  rw[e];exact hg.names
 ·obtain⟨k0,h0,e1,e2,e3⟩:=key k JR;have:=hg.tp k0 h0;rcases e3 with rfl|⟨e3,e4⟩
  ·exact this
  ·rw[e1];have h2:=this.2.2.2 (by omega);exact⟨by omega,by omega,λ_=>by omega,λ_=>h2⟩
 ·obtain⟨k0,h0,e1,e2,e3⟩:=key k JR;rw[e1];exact hg.tO k0 h0
 ·rw[hk,aeV];exact hg.some_
 ·have:=hg.vJ a ha;obtain⟨e1,e2,e3,e4,e5⟩:=ended hi h1 hw hf a.id;rw[hk];omega
 ·have:=hg.sY a ha;obtain⟨e1,e2,e3,e4,e5⟩:=ended hi h1 hw hf a.id;rw[hk];omega
 ·have:=hg.qY a ha;obtain⟨e1,e2,e3,e4,e5⟩:=ended hi h1 hw hf a.id;rw[hk];omega
def l7.release{b:ax}{m:Model}(hs:l7 b m)(hg:Ground m){i:Nat}(hi:i<m.kept.length)(h1:m.kept[i].fate=1){f:Int}(hf:f=3\/f=4)(n:Nat):l7 (b.release m.kept[i].move n f) (m.cI i f):=by
 have ml:=aee hi;have hw:has m.kept[i].move.flags 2:=(hg.tp _ ml).2.2.2 (by omega);obtain⟨gS,hd,hc⟩:=hg.tO _ ml;obtain⟨d0,Ei,EW⟩:=aeA.1 hd;obtain⟨c0,Mj,Ej⟩:=aeA.1 hc;have fd:b.find m.kept[i].move.aE=some (Md.full m.kept d0):=by
  rw[hs.find];unfold Model.find;rw[<-EW,m9 hg.ids Ei];rfl
 have fc:b.find m.kept[i].move.ar=some (Md.full m.kept c0):=by
  rw[hs.find];unfold Model.find;rw[<-Ej,m9 hg.ids Mj];rfl
 unfold ax.release;rw[fd,fc];have hk:=ou (m:=m) hi f;refine⟨?_,?_,hs.clock,hs.ae⟩
 ·show((b.ag.map _).map _)=m.made.map (Md.full (m.cI i f).kept);rw[hk,hs.ag,afr,afr];apply ae7;intro a ha;have hz:=hg.zero a ha;have:=Fx (l:=m.kept) (n:=n) (a:=a) (d:=Md.full m.kept d0) (c:=Md.full m.kept c0) hi h1 hw (.inr hf) gS hz.2.2.2.2.1 hz.2.2.2.2.2 (hg.qY a ha) EW Ej
   (λh=>by
    have e:(m.find m.kept[i].move.aE).map (Md.full m.kept)=some (Md.full m.kept d0):=by rw[<-hs.find];exact fd
    exact hg.one e ha h)
   (λh=>by
    have e:(m.find m.kept[i].move.ar).map (Md.full m.kept)=some (Md.full m.kept c0):=by rw[<-hs.find];exact fc
    exact hg.one e ha h)
  refine Eq.trans this ?_;have h2: ¬f=2:=by omega
  obtain⟨e1,e2,e3,e4,e5⟩:=ended hi h1 hw (.inr hf) a.id;rw[if_neg (λhh=>h2 hh.1),if_neg (λhh=>h2 hh.1)];unfold Md.full;dsimp only;rw[e3,e4]
  rfl
 ·show(b.kept.map _)=_;rw[hs.kept,hk];exact Gw hg.names hi h1 f
def GB{t:Move}{named:Option Kept}{k:Kept}{d1 c1 d2 c2:Bool}{many:Nat}(h:has k.move.flags 2-> ¬1<k.fate->d1=d2/\c1=c2):kO t named (some k) d1 c1 many=kO t named (some k) d2 c2 many:=by
 unfold kO;split
 ·rfl
 split
 ·rfl
 split
 ·rfl
 ·dsimp only;split
  ·rfl
  rename_i h2;split
  ·rfl
  split
  ·rfl
  rename_i h3;obtain⟨e1,e2⟩:=h (ad4.1 h2) h3;rw[e1,e2]
def Bw{t:Move}{named:Option Kept}{k:Kept}{d c:Bool}{many:Nat}(h:kO t named (some k) d c many=0)(hk:0<=k.fate):named=none/\kC t=0/\gr t.flags/\has k.move.flags 2/\ ¬1<k.fate/\ ¬iP t k.move/\many<96:=by
 unfold kO at h;by_cases h1:kC t≠0
 ·rw[if_pos h1] at h;exact absurd h h1
 rw[if_neg h1] at h;by_cases h2: ¬gr t.flags
 ·rw[if_pos h2] at h;exact absurd h (by decide)
 rw[if_neg h2] at h;cases named with
 |some x=>exact absurd h (oF t x.asked)
 |none=>
  dsimp only at h;by_cases h3: ¬has k.move.flags 2
  ·rw[if_pos h3] at h;exact absurd h (by decide)
  rw[if_neg h3] at h;by_cases h4:cZ t k.move
  ·rw[if_pos h4] at h;exact absurd h (by decide)
  rw[if_neg h4] at h;by_cases h5:1<k.fate
  ·rw[if_pos h5] at h;omega
  rw[if_neg h5] at h;by_cases h6:iP t k.move
  ·rw[if_pos h6] at h;exact absurd h (by decide)
  rw[if_neg h6] at h;by_cases h7:has t.flags 4/\d=true
  ·rw[if_pos h7] at h;exact absurd h (by decide)
  rw[if_neg h7] at h;by_cases h8:has t.flags 4/\c=true
  ·rw[if_pos h8] at h;exact absurd h (by decide)
  rw[if_neg h8] at h;by_cases h9:96<=many
  ·rw[if_pos h9] at h;exact absurd h (by decide)
  exact⟨rfl,ad4.1 h1,ad4.1 h2,ad4.1 h3,h5,h6,by omega⟩
def GJ{t:Move}(h:kC t=0)(he:gr t.flags): ¬has t.flags 2/\(has t.flags 8↔ ¬has t.flags 4)/\ ¬has t.flags 64/\ ¬has t.flags 128:=by
 unfold kC at h;by_cases h1:t.flags<0\/255<t.flags
 ·rw[if_pos h1] at h;exact absurd h (by decide)
 rw[if_neg h1] at h;by_cases h2:t.id=0
 ·rw[if_pos h2] at h;exact absurd h (by decide)
 rw[if_neg h2] at h;by_cases h3:t.id=aK-1
 ·rw[if_pos h3] at h;exact absurd h (by decide)
 rw[if_neg h3] at h;by_cases h4: ¬fw t.flags
 ·rw[if_pos h4] at h;exact absurd h (by decide)
 have h4:=ad4.1 h4;unfold fw at h4;unfold gr at h4 he;obtain⟨g1,g2,g3⟩:=h4;refine⟨λh2=>?_,⟨λh8 h4=>g1 (.inr (.inr ⟨h4,h8⟩)),λh4=>he.resolve_left h4⟩,λRb=>?_,λIb=>?_⟩
 ·rcases he with he|he
  ·exact g1 (.inl ⟨h2,he⟩)
  ·exact g1 (.inr (.inl ⟨h2,he⟩))
 ·have: ¬16<=t.flags:=λhh=>g2 ⟨he,hh⟩;unfold has at Rb;omega
 ·have: ¬16<=t.flags:=λhh=>g2 ⟨he,hh⟩;unfold has at Ib;omega
def y7{b:ax}{m:Model}(hs:l7 b m)(hg:Ground m){i:Nat}(hi:i<m.kept.length)(h1:m.kept[i].fate=1){id:Nat}{F:Int}
 (Hk:id=m.kept[i].move.aE/\F=64\/id=m.kept[i].move.ar/\F=128):b.ja id (has m.kept[i].move.flags F)=m.closed id i:=by
 have ml:=aee hi;have hw:has m.kept[i].move.flags 2:=(hg.tp _ ml).2.2.2 (by omega);obtain⟨gS,hd,hc⟩:=hg.tO _ ml;have Dg:id∈m.made.map (·.id):=by
  rcases Hk with⟨h,_⟩|⟨h,_⟩<;>rw[h]<;>assumption
 obtain⟨a,ha,X9⟩:=aeA.1 Dg;have hfm:m.find id=some a:=by unfold Model.find;rw[<-X9];exact m9 hg.ids ha
 have hz:=hg.zero a ha;have hg3:=hg.cI hi h1 (f:=3) (.inr (.inl rfl));have SH:=ou (m:=m) hi 3;have We:=hg3.full (a:=a) ha;unfold Model.full at We;have e1:m.closed id i=decide (8<=(Md.full (m.cI i 3).kept a).flags):=by
  unfold Model.closed;rw[hfm];dsimp only;have:(m.kept.modify i λk=>{k with fate:=3})=(m.cI i 3).kept:=rfl;rw[this,We]
 have e2:b.ja id (has m.kept[i].move.flags F)=decide (8<=(Md.full m.kept a).flags/\ ¬has m.kept[i].move.flags F):=by
  unfold ax.ja;rw[hs.find,hfm]
  rfl
 rw[e1,e2,decide_eq_decide];have Mh:∀l,8<=(Md.full l a).flags↔S (qo a.id) l≠0:=λl=>by
  by_cases h0:S (qo a.id) l=0
  ·have:(Md.full l a).flags=a.flags:=if_pos h0;rw[this];exact⟨λh=>by omega,λh=>absurd h0 h⟩
  ·have:(Md.full l a).flags=a.flags%8+8:=if_neg h0;rw[this];exact⟨λ_=>h0,λ_=>by omega⟩
 rw[Mh,Mh,SH];obtain⟨_,_,_,_,e5⟩:=ended hi h1 hw (f:=3) (.inr (.inl rfl)) a.id;have lY:=hg.qY a ha;rcases Hk with⟨h,rfl⟩|⟨h,rfl⟩
 ·have Li:m.kept[i].move.aE=a.id:=by rw[X9,h]
  have JT: ¬m.kept[i].move.ar=a.id:=λhh=>gS (by rw[Li,hh]);by_cases hF:has m.kept[i].move.flags 64
  ·rw[if_pos ⟨by decide,.inl ⟨hF,Li⟩⟩] at e5;exact⟨λhh=>absurd hF hh.2,λhh=>absurd (show S (qo a.id) _=0 by omega) hh⟩
  ·rw[if_neg (by rintro⟨_,hh|hh⟩;exact hF hh.1;exact JT hh.2)] at e5;exact⟨λhh=>by have:=hh.1;omega,λhh=>⟨by omega,hF⟩⟩
 ·have JT:m.kept[i].move.ar=a.id:=by rw[X9,h]
  have Li: ¬m.kept[i].move.aE=a.id:=λhh=>gS (by rw[hh,JT]);by_cases hF:has m.kept[i].move.flags 128
  ·rw[if_pos ⟨by decide,.inr ⟨hF,JT⟩⟩] at e5;exact⟨λhh=>absurd hF hh.2,λhh=>absurd (show S (qo a.id) _=0 by omega) hh⟩
  ·rw[if_neg (by rintro⟨_,hh|hh⟩;exact Li hh.2;exact hF hh.1)] at e5;exact⟨λhh=>by have:=hh.1;omega,λhh=>⟨by omega,hF⟩⟩
def l7.l6{b:ax}{m:Model}{t:Move}(hs:l7 b m)(hg:Ground m):(b.l6 t).1=(m.l6 t).1/\l7 (b.l6 t).2 (m.l6 t).2/\Ground (m.l6 t).2:=by
 unfold ax.l6 Model.l6;rw[hs.D8,hs.D8,hs.kept];cases hp:m.named t.pending with
 |none=>
  rw[Model.KW hp];exact⟨rfl,hs,hg⟩
 |some k=>
  obtain⟨i,hn,hi,hk,_⟩:=Model.Ny hp;rw[hn];dsimp only;rw[adQ hi,hk];dsimp only;have ml:k∈m.kept:=by rw[<-hk];exact aee hi
  have ZO:=hg.tp k ml;have XX:kO t (m.named t.id) (some k) (b.ja k.move.aE (has k.move.flags 64)) (b.ja k.move.ar (has k.move.flags 128)) m.kept.length=kO t (m.named t.id) (some k) (m.closed k.move.aE i) (m.closed k.move.ar i) m.kept.length:=by
   refine GB (λh2 h3=>?_);have h1:m.kept[i].fate=1:=by rw[hk];have:=ZO.2.2.1 h2;omega
   have c1:=y7 hs hg hi h1 (id:=k.move.aE) (F:=64) (by rw[hk];exact .inl ⟨rfl,rfl⟩);have c2:=y7 hs hg hi h1 (id:=k.move.ar) (F:=128) (by rw[hk];exact .inr ⟨rfl,rfl⟩);rw[hk] at c1 c2;exact⟨c1,c2⟩
  rw[XX];by_cases hr:kO t (m.named t.id) (some k) (m.closed k.move.aE i) (m.closed k.move.ar i) m.kept.length≠0
  ·rw[if_pos hr,if_pos hr];exact⟨rfl,hs,hg⟩
  rw[if_neg hr,if_neg hr];obtain⟨JO,pv,nt,hw,ZQ,uX,rS⟩:=Bw (ad4.1 hr) ZO.1;have h1:m.kept[i].fate=1:=by rw[hk];have:=ZO.2.2.1 hw;omega
  obtain⟨f2,f8,f64,f128⟩:=GJ pv nt;have hf:bU t=2\/bU t=3:=by unfold bU;split<;>simp
  have UG:bU t=2\/bU t=3\/bU t=4:=by rcases hf with h|h<;>simp[h]
  have zR:bU t=2↔has t.flags 4:=by unfold bU;split<;>simp_all
  have Hl:=hg.cI hi h1 UG;have Q2:=ou (m:=m) hi (bU t);obtain⟨gS,hd,hc⟩:=hg.tO k ml;obtain⟨d0,Ei,EW⟩:=aeA.1 hd;obtain⟨c0,Mj,Ej⟩:=aeA.1 hc;have fd:b.find k.move.aE=some (Md.full m.kept d0):=by
   rw[hs.find];unfold Model.find;rw[<-EW,m9 hg.ids Ei];rfl
  have fc:b.find k.move.ar=some (Md.full m.kept c0):=by
   rw[hs.find];unfold Model.find;rw[<-Ej,m9 hg.ids Mj];rfl
  have r1:∀id st ck,vU id ⟨t,{jV t k.move with ae:=st,born:=ck},0⟩=0:=λid st ck=>if_neg (λhh=>absurd hh.1 (show ¬(0:Int)=1 by decide));have r2:∀id st ck,vV id ⟨t,{jV t k.move with ae:=st,born:=ck},0⟩=0:=λid st ck=>if_neg (λhh=>absurd hh.1 (show ¬(0:Int)=1 by decide));have rp:∀st ck,ig ⟨t,{jV t k.move with ae:=st,born:=ck},0⟩↔bU t=2:=λst ck=>by
   rw[zR];show(¬has t.flags 2/\ ¬has t.flags 8)↔_
   constructor
   ·rintro⟨_,hh⟩;by_cases h4:has t.flags 4
    ·exact h4
    ·exact absurd (f8.2 h4) hh
   ·intro h4;exact⟨f2,λh8=>f8.1 h8 h4⟩
  have r3:∀id st ck,yh id ⟨t,{jV t k.move with ae:=st,born:=ck},0⟩=if bU t=2/\k.move.aE=id then bK t k.move else 0:=λid st ck=>by
   unfold yh;by_cases h:bU t=2/\k.move.aE=id
   ·rw[if_pos h,if_pos ⟨(rp st ck).2 h.1,h.2⟩];rfl
   ·rw[if_neg h,if_neg (λhh=>h ⟨(rp st ck).1 hh.1,hh.2⟩)]
  have r4:∀id st ck,yi id ⟨t,{jV t k.move with ae:=st,born:=ck},0⟩=if bU t=2/\k.move.ar=id then bK t k.move else 0:=λid st ck=>by
   unfold yi;by_cases h:bU t=2/\k.move.ar=id
   ·rw[if_pos h,if_pos ⟨(rp st ck).2 h.1,h.2⟩];rfl
   ·rw[if_neg h,if_neg (λhh=>h ⟨(rp st ck).1 hh.1,hh.2⟩)]
  have r5:∀id st ck,qo id ⟨t,{jV t k.move with ae:=st,born:=ck},0⟩=0:=λid st ck=>if_neg (λhh=>by
   rcases hh.1 with h|h
   ·exact f64 h.1
   ·exact f128 h.1)
  have Ra:bU t=2->bK t k.move<=k.move.aB:=λh2=>by
   have h4:=zR.1 h2;by_cases aZ:k.move.aB<bK t k.move
   ·exact absurd (.inl ⟨h4,aZ⟩) uX
   ·omega
  refine⟨rfl,⟨?_,?_,?_,?_⟩,?_⟩
  ·unfold ax.release;rw[fd,fc];show((b.ag.map _).map _)=m.made.map (Md.full ((m.cI i (bU t)).kept++[_]));rw[Q2,hs.ag,afr,afr];apply ae7;intro a ha;have hz:=hg.zero a ha;have:=Fx (l:=m.kept) (n:=bK t k.move) (a:=a) (d:=Md.full m.kept d0) (c:=Md.full m.kept c0) hi h1 (by rw[hk];exact hw) UG (by rw[hk];exact gS) hz.2.2.2.2.1 hz.2.2.2.2.2 (hg.qY a ha) (by rw[hk];exact EW) (by rw[hk];exact Ej)
    (λh=>by
     rw[hk] at h
     have e:(m.find k.move.aE).map (Md.full m.kept)=some (Md.full m.kept d0):=by rw[<-hs.find];exact fd
     exact hg.one e ha h)
    (λh=>by
     rw[hk] at h
     have e:(m.find k.move.ar).map (Md.full m.kept)=some (Md.full m.kept c0):=by rw[<-hs.find];exact fc
     exact hg.one e ha h)
   rw[hk] at this;refine Eq.trans this ?_;obtain⟨e1,e2,e3,e4,e5⟩:=ended hi h1 (by rw[hk];exact hw) UG a.id;rw[hk] at e3 e4;rw[Dr,wW,r1,r2,r3,r4,hk];have Hk:(Md.full (m.kept.set i {k with fate:=bU t}) a).id=a.id:=rfl;rw[Hk];have aaz: ¬gF a.id ⟨t,{jV t k.move with ae:=(m.cI i (bU t)).ae+1,born:=(m.cI i (bU t)).clock},0⟩:=λhh=>by
    rcases hh.1 with h|h
    ·exact f64 h.1
    ·exact f128 h.1
   rw[if_neg aaz];have q1:(Md.full m.kept a).dq=a.dq+S (yh a.id) m.kept:=rfl;have q2:(Md.full m.kept a).cq=a.cq+S (yi a.id) m.kept:=rfl;rw[q1,q2,<-e3,<-e4]
   rfl
  ·unfold ax.release;rw[fd,fc];show(b.kept.map _)++[_]=(m.cI i (bU t)).kept++[_];have hms:(m.cI i (bU t)).ae=m.ae:=rfl;have hmc:(m.cI i (bU t)).clock=m.clock:=rfl;rw[Q2,hs.kept,hms,hmc]
   congr 1
   ·have:=Gw hg.names hi h1 (bU t);rw[hk] at this⊢;exact this
   ·show[(⟨t,{jV t k.move with ae:=b.ae+1,born:=b.clock},0⟩:Kept)]=_;rw[hs.ae,hs.clock]
  ·unfold ax.release;rw[fd,fc];exact hs.clock
  ·unfold ax.release;rw[fd,fc];show b.ae+1=m.ae+1;rw[hs.ae]
  ·refine⟨Hl.zero,Hl.ids,Hl.lh,?_,λx hx=>?_,λx hx=>?_,?_,λa ha=>?_,λa ha=>?_,λa ha=>?_⟩
   ·show(((m.cI i (bU t)).kept++[_]).map _).Nodup;rw[aen,List.nodup_append];refine⟨Hl.names,by simp,λx hx y hy=>?_⟩;simp only[aer,afp,List.mem_singleton] at hy;rw[Q2,List.map_set] at hx;have e:(m.kept.map (·.move.id)).set i ({m.kept[i] with fate:=bU t}:Kept).move.id=m.kept.map (·.move.id):=by
     have:m.kept[i].move.id=(m.kept.map (·.move.id))[i]'(by simpa using hi):=by simp
     show(m.kept.map (·.move.id)).set i m.kept[i].move.id=_;rw[this,List.set_getElem_self]
    rw[e] at hx;obtain⟨z,hz,rfl⟩:=aeA.1 hx;intro Wa;unfold Model.named at JO;have:=afb.1 JO z hz;rw[hy] at Wa;have h5:z.move.id=t.id:=Wa;simp[h5] at this
   ·rcases aeu.1 hx with hx|hx
    ·exact Hl.tp x hx
    ·simp only[List.mem_singleton] at hx;subst hx;refine⟨by show(0:Int)<=0;decide,by show(0:Int)<=4;decide,?_⟩;show has t.flags 2↔(1:Int)<=0;exact⟨λh=>absurd h f2,λh=>absurd h (by decide)⟩
   ·rcases aeu.1 hx with hx|hx
    ·exact Hl.tO x hx
    ·simp only[List.mem_singleton] at hx;subst hx;exact⟨gS,hd,hc⟩
   ·show((m.cI i (bU t)).kept++[_]).length<=96;rw[adT,afd,Q2,aeV];omega
   ·show S (vU a.id) ((m.cI i (bU t)).kept++[_])+S (yh a.id) ((m.cI i (bU t)).kept++[_])<aK;rw[rD,rD,r1,r3,Q2];obtain⟨e1,e2,e3,e4,e5⟩:=ended hi h1 (by rw[hk];exact hw) UG a.id;have:=hg.vJ a ha;rw[hk] at e1 e3;rw[hk];by_cases hq:bU t=2/\k.move.aE=a.id
    ·have:=Ra hq.1;rw[if_pos hq.2] at e1;rw[if_pos hq];omega
    ·rw[if_neg hq];omega
   ·show S (vV a.id) ((m.cI i (bU t)).kept++[_])+S (yi a.id) ((m.cI i (bU t)).kept++[_])<aK;rw[rD,rD,r2,r4,Q2];obtain⟨e1,e2,e3,e4,e5⟩:=ended hi h1 (by rw[hk];exact hw) UG a.id;have:=hg.sY a ha;rw[hk] at e2 e4;rw[hk];by_cases hq:bU t=2/\k.move.ar=a.id
    ·have:=Ra hq.1;rw[if_pos hq.2] at e2;rw[if_pos hq];omega
    ·rw[if_neg hq];omega
   ·show S (qo a.id) ((m.cI i (bU t)).kept++[_])<=1;rw[rD,r5,Q2];obtain⟨e1,e2,e3,e4,e5⟩:=ended hi h1 (by rw[hk];exact hw) UG a.id;have:=hg.qY a ha;rw[hk] at e5;rw[hk];omega
def l7.nZ{b:ax}{m:Model}{t:Move}(hs:l7 b m)(hg:Ground m):(b.nZ t).1=(m.nZ t).1/\l7 (b.nZ t).2 (m.nZ t).2/\Ground (m.nZ t).2:=by
 unfold ax.nZ Model.nZ;split
 ·exact hs.l6 hg
 ·exact hs.move hg
def Gx{m:Model}{i:Nat}(hi:i<m.kept.length)(clock:Int):((m.cI i 4).kept.map λk=>if ju clock k then{k with fate:=4} else k)=(m.kept.map λk=>if ju clock k then{k with fate:=4} else k)\/ ¬ju clock m.kept[i]:=by
 by_cases ho:ju clock m.kept[i]
 ·left
  rw[ou hi];apply afa;intro j;rw[aeD,aeD,aem];by_cases Hj:i=j
  ·subst Hj;rw[if_pos rfl,if_pos hi,adQ hi,aeB,aeB,if_pos ho];rw[if_neg (by rintro⟨hh,_⟩;exact absurd hh (show ¬(4:Int)=1 by decide))]
  ·rw[if_neg Hj]
 ·exact .inr ho
def Gy{m:Model}{clock:Int}(h:∀k∈m.kept,¬ju clock k):(m.kept.map λk=>if ju clock k then{k with fate:=4} else k)=m.kept:=by
 have:m.kept.map (λk=>if ju clock k then{k with fate:=4} else k)=m.kept.map id:=ae7 λk hk=>if_neg (h k hk);rw[this,List.map_id]
section
variable {α σ τ:Type}
def bl(linked:α->Bool):List α->Nat×Bool
 |[]=>(0,false)
 |x::l=>if linked x then((bl linked l).1+1,(bl linked l).2) else(1,true)
def fp(f:σ->α->Int×σ):σ->List α->Nat->Option (Nat×Int)×σ
 |s,[],_=>(none,s)
 |s,x::l,i=>if(f s x).1≠0 then(some (i,(f s x).1),s) else fp f (f s x).2 l (i+1)
def ik(n:Nat):Option (Nat×Int)->List Int
 |none=>ad6 n 0
 |some (i,c)=>(ad6 n 1).set i c
def eL(f:σ->α->Int×σ)(linked:α->Bool):Nat->σ->List α->List Int×σ
 |0,s,_=>([],s)
 |_+1,s,[]=>([],s)
 |fuel+1,s,x::l=>
  if(bl linked (x::l)).2=false then(ik (bl linked (x::l)).1 (some ((bl linked (x::l)).1-1,2)),s)
  else match fp f s ((x::l).take (bl linked (x::l)).1) 0 with
   |(none,s')=>(ik (bl linked (x::l)).1 none++(eL f linked fuel s' ((x::l).drop (bl linked (x::l)).1)).1,(eL f linked fuel s' ((x::l).drop (bl linked (x::l)).1)).2)
   |(some e,_)=>(ik (bl linked (x::l)).1 (some e)++(eL f linked fuel s ((x::l).drop (bl linked (x::l)).1)).1,(eL f linked fuel s ((x::l).drop (bl linked (x::l)).1)).2)
def Dy{f:σ->α->Int×σ}{g:τ->α->Int×τ}{R:σ->τ->Prop}(h:∀s t x,R s t->(f s x).1=(g t x).1/\R (f s x).2 (g t x).2):
 ∀(l:List α)(s:σ)(t:τ)(i:Nat),R s t->(fp f s l i).1=(fp g t l i).1/\((fp f s l i).1=none->R (fp f s l i).2 (fp g t l i).2)
 |[],s,t,i,hr=>⟨rfl,λ_=>hr⟩
 |x::l,s,t,i,hr=>by
  obtain⟨h1,h2⟩:=h s t x hr;unfold fp;rw[h1];by_cases h0:(g t x).1≠0
  ·rw[if_pos h0,if_pos h0];exact⟨rfl,λhh=>by cases hh⟩
  ·rw[if_neg h0,if_neg h0];exact Dy h l _ _ _ h2
def wq{f:σ->α->Int×σ}{g:τ->α->Int×τ}{R:σ->τ->Prop}(linked:α->Bool)(h:∀s t x,R s t->(f s x).1=(g t x).1/\R (f s x).2 (g t x).2):
 ∀(n:Nat)(l:List α)(s:σ)(t:τ),R s t->(eL f linked n s l).1=(eL g linked n t l).1/\R (eL f linked n s l).2 (eL g linked n t l).2
 |0,l,s,t,hr=>⟨rfl,hr⟩
 |n+1,[],s,t,hr=>⟨rfl,hr⟩
 |n+1,x::l,s,t,hr=>by
  unfold eL;by_cases hw:(bl linked (x::l)).2=false
  ·rw[if_pos hw,if_pos hw];exact⟨rfl,hr⟩
  rw[if_neg hw,if_neg hw];obtain⟨e1,e2⟩:=Dy h ((x::l).take (bl linked (x::l)).1) s t 0 hr;cases hf:fp f s ((x::l).take (bl linked (x::l)).1) 0 with
  |mk o s'=>
   cases hg:fp g t ((x::l).take (bl linked (x::l)).1) 0 with
   |mk o' t'=>
    rw[hf,hg] at e1 e2;dsimp only at e1 e2;subst e1;cases o with
    |none=>
     obtain⟨i1,i2⟩:=wq linked h n ((x::l).drop (bl linked (x::l)).1) s' t' (e2 rfl);dsimp only;rw[i1];exact⟨rfl,i2⟩
    |some e=>
     obtain⟨i1,i2⟩:=wq linked h n ((x::l).drop (bl linked (x::l)).1) s t hr;dsimp only;rw[i1];exact⟨rfl,i2⟩
end
end Go.Md
namespace Go.Up
open Go.Sep Go.Den Go.RowKit Go.Prog Go.Md Go.bu
abbrev ax:=Go.Md.ax
structure AG(a:aP):Prop where
 ok:uu a
 uY:mB a
 flags:0<=a.flags/\a.flags<16
 ae:0<=a.ae/\a.ae<1000
structure KG(k:Kept):Prop where
 asked:tB k.asked
 move:tB k.move
 IH:jZ k.asked
 Jw:jZ k.move
 qx:0<=k.asked.flags/\k.asked.flags<256
 rN:0<=k.move.flags/\k.move.flags<256
 fate:0<=k.fate/\k.fate<=4
 timeout:0<=k.move.timeout/\k.move.timeout<=1073741824
 born:0<=k.move.born/\k.move.born<=1099511627776
structure Good(b:ax):Prop where
 ids:(b.ag.map (·.id)).Nodup
 names:(b.kept.map (·.move.id)).Nodup
 lh:b.ag.length<=32
 many:b.kept.length<=96
 Mo:∀a∈b.ag,AG a
 L5:∀k∈b.kept,KG k
 rising:b.kept.Pairwise λx y=>x.move.ae<y.move.ae
 stamps:∀k∈b.kept,1<=k.move.ae/\k.move.ae<=b.ae
 clock:0<=b.clock/\b.clock<=1099511627776
 ae:b.ae=b.ag.length+b.kept.length
def idxOf{α:Type}(key:α->Nat)(l:List α):(Nat->Option Int)×Nat:=(λid=>(l.findIdx? λx=>key x=id).map Int.ofNat,l.length)
section
variable {α:Type} {key:α->Nat} {l:List α} {x y:α} {i id:Nat}
def rR(h:l.findIdx? (λx=>key x=id)=some i):∃hi:i<l.length,key l[i]=id/\l.find? (λx=>key x=id)=some l[i]:=by
 obtain⟨hi,h1,h2⟩:=List.findIdx?_eq_some_iff_getElem.1 h;refine⟨hi,by simpa using h1,?_⟩;rw[List.find?_eq_some_iff_getElem];exact⟨h1,i,hi,rfl,λj hj=>by simpa using h2 j hj⟩
def wP(h:l.findIdx? (λx=>key x=id)=none):l.find? (λx=>key x=id)=none:=by
 rw[List.findIdx?_eq_none_iff] at h;rw[afb];intro a ha;have:=h a ha;simpa using this
def mO(h:l.find? (λx=>key x=id)=none):l.findIdx? (λx=>key x=id)=none:=by
 rw[afb] at h;rw[List.findIdx?_eq_none_iff];intro a ha;have:=h a ha;simpa using this
def wO(h:l.find? (λa=>key a=key x)=none):idxOf key (l++[x])=(sj (idxOf key l).1 (key x) (some (l.length:Int)),(idxOf key l).2+1):=by
 unfold idxOf;refine Prod.ext ?_ (by simp)
 funext id
 dsimp only[sj];rw[List.findIdx?_append];by_cases e:id=key x
 ·subst e;rw[if_pos rfl,mO h];simp
 ·rw[if_neg e];have:List.findIdx? (λa=>decide (key a=id)) [x]=none:=by simp;exact λh=>e h.symm
  rw[this];cases l.findIdx? λx=>decide (key x=id)<;>simp
def JK(hi:i<l.length)(hk:key x=key l[i]):idxOf key (l.set i x)=idxOf key l:=by
 unfold idxOf;refine Prod.ext ?_ (by simp)
 funext id
 dsimp only
 congr 1
 have aao:∀(l:List α)(i:Nat)(hi:i<l.length),key x=key l[i]->(l.set i x).findIdx? (λx=>key x=id)=l.findIdx? λx=>key x=id:=by
  intro l
  induction l with
  |nil=>intro i hi;simp at hi
  |cons a l ih=>
   intro i hi hk;cases i with
   |zero=>simp only[List.set_cons_zero,List.findIdx?_cons];simp at hk;rw[hk]
   |succ i=>simp only[ae5,List.findIdx?_cons];rw[ih i (by simpa using hi) (by simpa using hk)]
 exact aao l i hi hk
def uE(hn:(l.map key).Nodup)(hi:i<l.length):l.findIdx? (λx=>key x=key l[i])=some i:=by
 rw[List.findIdx?_eq_some_iff_getElem];refine⟨hi,by simp,λj hj=>?_⟩;have aZ:j<l.length:=by omega
 have:=aeW.1 hn j i (by simpa using aZ) (by simpa using hi) hj;simpa using this
def map_set(hn:(l.map key).Nodup)(hi:i<l.length)(g:α->α):(l.map λx=>if key x=key l[i] then g x else x)=l.set i (g l[i]):=by
 apply List.ext_getElem (by simp);intro j h1 h2;simp only[aeg] at h1;rw[List.getElem_map,List.getElem_set];by_cases e:i=j
 ·subst e;simp
 ·rw[if_neg e,if_neg];intro hk;have a:=uE hn h1;rw[hk,uE hn hi] at a;exact e (aea.inj a)
end
def cL:Nat->List Kept->List km
 |_,[]=>[]
 |i,k::l=>(k.move.ae,(i:Int))::cL (i+1) l
def iN:∀(i:Nat)(l:List Kept),(cL i l).length=l.length
 |_,[]=>rfl
 |i,k::l=>by simp[cL,iN (i+1) l]
def iO:∀(i:Nat)(l:List Kept)(j:Nat),(cL i l)[j]?=(l[j]?).map λk=>(k.move.ae,((i+j:Nat):Int))
 |_,[],j=>by simp[cL]
 |i,k::l,0=>by simp[cL]
 |i,k::l,j+1=>by simp only[cL,ad7,iO (i+1) l j];rw[show i+1+j=i+(j+1) by omega]
def ri:∀(i:Nat)(l:List Kept)(k:Kept),cL i (l++[k])=cL i l++[(k.move.ae,((i+l.length:Nat):Int))]
 |i,[],k=>by simp[cL]
 |i,x::l,k=>by simp only[ae3,cL,ri (i+1) l k];simp;omega
def wh{i:Nat}{l:List Kept}{x:km}(h:x∈cL i l):∃k∈l,x.1=k.move.ae:=by
 obtain⟨j,hj⟩:=ae' h;rw[iO] at hj;cases hk:l[j]? with
 |none=>rw[hk] at hj;cases hj
 |some k=>rw[hk] at hj;cases hj;exact⟨k,aei hk,rfl⟩
def DP{l:List Kept}{j:Nat}{k:Kept}(i:Nat)(hj:j<l.length)(hk:k.move.ae=l[j].move.ae):cL i (l.set j k)=cL i l:=by
 apply afa;intro n;rw[iO,iO,aem];by_cases e:j=n
 ·subst e;rw[if_pos rfl,if_pos hj,adQ hj];simp[hk]
 ·rw[if_neg e]
def df(k:Kept):Option Item:=if k.fate=1/\0<k.move.timeout then some ⟨k.move.born+k.move.timeout,k.move.ae,k.move.id⟩ else none
abbrev Ec(l:List aP):=idxOf (λx:aP=>x.id) l
abbrev B2(l:List Kept):=idxOf (λx:Kept=>x.move.id) l
def cY(b:ax):C:=⟨b.ag,b.kept,Ec b.ag,B2 b.kept,cL 0 b.kept,b.kept.filterMap df,b.clock,b.ae⟩
def nw{k:Kept}{x:Item}(h:df k=some x):x.ae=k.move.ae/\x.id=k.move.id/\x.due=k.move.born+k.move.timeout/\k.fate=1/\0<k.move.timeout:=by
 unfold df at h;split at h
 ·rename_i hc;cases h;exact⟨rfl,rfl,rfl,hc⟩
 ·cases h
section
variable {b:ax}
def Good.tQ(h:Good b):oH (cL 0 b.kept):=by
 unfold oH;rw[aeW];intro i j hi hj Hj;have qC:i<b.kept.length:=by simpa [iN] using hi
 have Hi:j<b.kept.length:=by simpa [iN] using hj
 have e1:=iO 0 b.kept i;have e2:=iO 0 b.kept j;rw[adQ hi,adQ qC] at e1;rw[adQ hj,adQ Hi] at e2;have e1:=aea.inj e1;have e2:=aea.inj e2;rw[e1,e2];exact aeW.1 h.rising i j qC Hi Hj
def xa(b:ax):(b.kept.filterMap df).length<=b.kept.length:=List.length_filterMap_le _ _
def Good.Kq(h:Good b){i j:Nat}(hi:i<b.kept.length)(hj:j<b.kept.length)(he:b.kept[i].move.ae=b.kept[j].move.ae):i=j:=by
 rcases Nat.lt_trichotomy i j with h1|h1|h1
 ·have:=aeW.1 h.rising i j hi hj h1;omega
 ·exact h1
 ·have:=aeW.1 h.rising j i hj hi h1;omega
def Good.Od(h:Good b){i:Nat}(hi:i<b.kept.length){k:Kept}(hk:df k=none){x:Item}(hx:df b.kept[i]=some x):
 (x::(b.kept.set i k).filterMap df).Perm (b.kept.filterMap df)/\∀y∈(b.kept.set i k).filterMap df,y.ae≠x.ae:=by
 constructor
 ·have key:∀(l:List Kept)(i:Nat)(hi:i<l.length),df l[i]=some x->(x::(l.set i k).filterMap df).Perm (l.filterMap df):=by
   intro l
   induction l with
   |nil=>intro i hi;simp at hi
   |cons a l ih=>
    intro i hi hx;cases i with
    |zero=>
     simp only[List.set_cons_zero,List.getElem_cons_zero] at hx⊢;rw[List.filterMap_cons_none hk,List.filterMap_cons_some hx]
    |succ i=>
     simp only[ae5,List.getElem_cons_succ] at hx⊢;have:=ih i (by simpa using hi) hx;cases ha:df a with
     |none=>rw[List.filterMap_cons_none ha,List.filterMap_cons_none ha];exact this
     |some y=>rw[List.filterMap_cons_some ha,List.filterMap_cons_some ha];exact(aeh.swap _ _ _).trans (this.cons y)
  exact key _ i hi hx
 ·intro y hy he;obtain⟨a,ha,hay⟩:=List.mem_filterMap.1 hy;obtain⟨j,hj⟩:=ae' ha;rw[aem] at hj;by_cases e:i=j
  ·subst e;rw[if_pos rfl,if_pos hi] at hj;cases hj;rw[hk] at hay;cases hay
  ·rw[if_neg e] at hj;have NV:=(adS.1 hj).1;have s1:=(nw hay).1;have s2:=(nw hx).1;have UD:b.kept[j]=a:=by rw[adQ NV] at hj;exact aea.inj hj
   exact e (h.Kq hi NV (by rw[UD];omega))
def Cs{l:List Kept}{i:Nat}(hi:i<l.length){k:Kept}(hk:df k=none)(hx:df l[i]=none):(l.set i k).filterMap df=l.filterMap df:=by
 induction l generalizing i with
 |nil=>simp at hi
 |cons a l ih=>
  cases i with
  |zero=>simp only[List.set_cons_zero,List.getElem_cons_zero] at hx⊢;rw[List.filterMap_cons_none hk,List.filterMap_cons_none hx]
  |succ i=>
   simp only[ae5,List.getElem_cons_succ] at hx⊢;rw[List.filterMap_cons,List.filterMap_cons,ih (by simpa using hi) hx]
end
def Ext(c:C)(hs:List C)(c':C)(cT:List C)(n:Nat):Prop:=∃T7,cT=T7++hs/\(c'::T7).getLast?=some c/\T7.length<=n
def Ext.refl(c:C)(hs:List C)(n:Nat):Ext c hs c hs n:=⟨[],rfl,rfl,ad0 _⟩
def Ext.trans{c c' c'':C}{hs cT tz:List C}{n m:Nat}(h1:Ext c hs c' cT n)(h2:Ext c' cT c'' tz m):Ext c hs c'' tz (n+m):=by
 obtain⟨m1,rfl,h3,h4⟩:=h1;obtain⟨m2,rfl,h5,h6⟩:=h2;refine⟨m2++m1,by simp,?_,by simp;omega⟩;cases m1 with
 |nil=>simp at h3;subst h3;simpa using h5
 |cons a m1=>
  rw[List.getLast?_cons_cons] at h3;rw[<-ae3,List.getLast?_append,h3];rfl
def Ext.mono{c c':C}{hs cT:List C}{n m:Nat}(h:Ext c hs c' cT n)(hm:n<=m):Ext c hs c' cT m:=by
 obtain⟨m1,h1,h3,h4⟩:=h;exact⟨m1,h1,h3,by omega⟩
def Ext.len{c c':C}{hs cT:List C}{n:Nat}(h:Ext c hs c' cT n):cT.length<=hs.length+n:=by
 obtain⟨m1,rfl,h3,h4⟩:=h;simp;omega
def Ext.back{c c':C}{hs cT:List C}{n:Nat}(h:Ext c hs c' cT n):qw hs.length c' cT=(c,hs):=by
 obtain⟨m1,rfl,h3,-⟩:=h
 induction m1 generalizing c' with
 |nil=>simp at h3;subst h3;exact zb (adW _)
 |cons a m1 ih=>
  rw[List.getLast?_cons_cons] at h3;rw[ae3];unfold qw;rw[if_pos (by simp)];exact ih h3
def bj(p:Nat)(x:ax×List C):HP:=LQ (Good x.1) (cP p (cY x.1,x.2))
section
variable {W:World} {L R:LH} {K:VK} {X:WK} {p:Nat} {b:ax} {hs:List C} {f:ax×List C->LH} {id:Nat} {a old:aP}
def Hb[i:Lc (bj p) L (b,hs) f](h:∀la lk ti tn vs bx R,Good b->fZ p la lk bx vs hs (cY b)->
 (∀M b' cT B1 kD Y,Good b'->fZ p la lk kD B1 cT (cY b')->T W (M++f (b',cT)) Y->T W (M++dM p (dA la lk ti tn B1 (cY b'))::od ao 14 la (p,(cY b').ag)::od aI 33 lk (p,(cY b').kept)::ln ti (cY b').lO::ln tn (cY b').ef::rA kD::R) Y)->
 T W (dM p (dA la lk ti tn vs (cY b))::od ao 14 la (p,(cY b).ag)::od aI 33 lk (p,(cY b).kept)::ln ti (cY b).lO::ln tn (cY b).ef::rA bx::R) X):T W L X:=
 zE (P:=bj p) λR lY w hw=>by
  obtain⟨hg,hw⟩:=hw.and;refine OC (λla lk ti tn vs bx hc=>h la lk ti tn vs bx R hg hc λM b' cT B1 kD Y Q4 Gn hy=>?_) w hw;refine T.perm (z7 (R:=M++R) Gn (T.perm ?_ ae2.symm)) (by
   have:=adY (l₁:=M) (l₂:=[dM p (dA la lk ti tn B1 (cY b')),od ao 14 la (p,(cY b').ag),od aI 33 lk (p,(cY b').kept),ln ti (cY b').lO,ln tn (cY b').ef,rA kD])|>.append_right R
   simpa using this)
  refine λw' L7=>lY M (b',cT) Y hy w' ?_;have:=(L7.perm ae2);exact(St.and_intro Q4 this).perm ae2.symm
def mX[i:Lc (bj p) L (b,hs) f](h:Good b->T W L X):T W L X:=λw hw=>by
 obtain⟨k,hk,_⟩:=i.at_;exact h ((hw.focus hk).and).1 w hw
def B0{f1:Core->LH}{f2:Nat×List aP->LH}{f3:(Nat->Option Int)×Nat->LH}{q:Core}[i1:Lc (dM p) L q f1][i2:Lc (od ao 14 q.la) L (p,b.ag) f2][i3:Lc (ln q.ti) L (Ec b.ag) f3](lh:b.ag.length<=32)
 (h:T W L (K (.tuple ⟨[.agg ⟨ao ((b.find id).getD zA)⟩,.bool (b.find id).isSome]⟩))):T W L (bX (some ⟨p,0,none⟩) (nm id) K):=by
 unfold bX;apply ws;intros;refine zh (t:=q.ti) (x:=Ec b.ag) ?_;cases hi:(b.ag.findIdx? λx=>x.id=id) with
 |none=>
  have e1:(Ec b.ag).1 id=none:=by show aft _ _=_;rw[hi];rfl
  have e2:b.find id=none:=wP (key:=λx:aP=>x.id) hi;rw[e1];rw[e2] at h;simp only[aew,aep,aeI,aes] at h⊢;apply ws;intros;exact T.dp h
 |some n=>
  have e1:(Ec b.ag).1 id=some (n:Int):=by show aft _ _=_;rw[hi];rfl
  obtain⟨hn,hk,hf⟩:=rR (key:=λx:aP=>x.id) hi;have e2:b.find id=some b.ag[n]:=hf;rw[e1];rw[e2] at h;simp only[aew,aep,aeI,aes] at h⊢;apply ws;intros;refine Zp (l:=q.la) (x:=b.ag[n]) (adQ hn) (by omega) ?_;apply ws;intros;exact T.dp h
def sh[i:Lc (bj p) L (b,hs) f](h:T W L (K (.tuple ⟨[.agg ⟨ao ((b.find id).getD zA)⟩,.bool (b.find id).isSome]⟩))):T W L (bX (some ⟨p,0,none⟩) (nm id) K):=by
 have hL:f (b,hs)=L:=i.same;refine Hb (p:=p) λla lk ti tn vs bx R hg hc lY=>?_;exact B0 (b:=b) hg.lh (lY [] b hs vs bx _ hg hc (by rw[hL];exact h))
def EM{f1:Core->LH}{f2:Nat×List Kept->LH}{f3:(Nat->Option Int)×Nat->LH}{q:Core}[i1:Lc (dM p) L q f1][i2:Lc (od aI 33 q.lk) L (p,b.kept) f2][i3:Lc (ln q.tn) L (B2 b.kept) f3](lh:b.kept.length<=96)
 (h:T W L (K (.tuple ⟨[.agg ⟨aI ((b.named id).getD zK)⟩,.bool (b.named id).isSome]⟩))):T W L (eu (some ⟨p,0,none⟩) (nm id) K):=by
 unfold eu;apply ws;intros;refine zh (t:=q.tn) (x:=B2 b.kept) ?_;cases hi:(b.kept.findIdx? λx=>x.move.id=id) with
 |none=>
  have e1:(B2 b.kept).1 id=none:=by show aft _ _=_;rw[hi];rfl
  have e2:b.named id=none:=wP (key:=λx:Kept=>x.move.id) hi;rw[e1];rw[e2] at h;simp only[aew,aep,aeI,aes] at h⊢;apply ws;intros;exact T.dp h
 |some n=>
  have e1:(B2 b.kept).1 id=some (n:Int):=by show aft _ _=_;rw[hi];rfl
  obtain⟨hn,hk,hf⟩:=rR (key:=λx:Kept=>x.move.id) hi;have e2:b.named id=some b.kept[n]:=hf;rw[e1];rw[e2] at h;simp only[aew,aep,aeI,aes] at h⊢;apply ws;intros;refine O9 (l:=q.lk) (x:=b.kept[n]) (adQ hn) (by omega) ?_;apply ws;intros;exact T.dp h
def EL[i:Lc (bj p) L (b,hs) f](h:T W L (K (.tuple ⟨[.agg ⟨aI ((b.named id).getD zK)⟩,.bool (b.named id).isSome]⟩))):T W L (eu (some ⟨p,0,none⟩) (nm id) K):=by
 have hL:f (b,hs)=L:=i.same;refine Hb (p:=p) λla lk ti tn vs bx R hg hc lY=>?_;exact EM (b:=b) hg.many (lY [] b hs vs bx _ hg hc (by rw[hL];exact h))
def OY[i:Lc (bj p) L (b,hs) f](h:T W L (K (.bool (decide (b.kept.length<96))))):T W L (kF (some ⟨p,0,none⟩) K):=by
 have hL:f (b,hs)=L:=i.same;refine Hb (p:=p) λla lk ti tn vs bx R hg hc lY=>?_;have fin:=lY [] b hs vs bx _ hg hc (by rw[hL];exact h);unfold kF
 repeat' first|apply ws;intros|apply wb|with_reducible refine IN ?_|fail
 refine T.fin fin ?_
 congr 1
 rw[decide_eq_decide];show((b.kept.length:Nat):Int)<96↔_;omega
def Jg[i:Lc (bj p) L (b,hs) f](h:T W L (K (.i (hs.length:Int)))):T W L (cV (some ⟨p,0,none⟩) K):=by
 have hL:f (b,hs)=L:=i.same;refine Hb (p:=p) λla lk ti tn vs bx R hg hc lY=>?_;have fin:=lY [] b hs vs bx _ hg hc (by rw[hL];exact h);unfold cV;refine tM ?_;refine zk ?_;refine VD (p:=p) ?_;apply ws;intros;have:(dA la lk ti tn vs (cY b)).vs.length=hs.length:=by show vs.reverse.length=_;rw[aeM,hc.len]
 rw[this];exact fin
def Fa(hg:Good b){n:Nat}(hn:n<b.ag.length)(hk:b.ag[n].id=a.id):cY (b.aH a)={cY b with ag:=b.ag.set n {a with ae:=b.ag[n].ae}}:=by
 have e:(b.aH a).ag=b.ag.set n {a with ae:=b.ag[n].ae}:=by
  show(b.ag.map λx=>if x.id=a.id then{a with ae:=x.ae} else x)=_;have:=map_set (key:=λx:aP=>x.id) hg.ids hn λx=>{a with ae:=x.ae};simp only[hk] at this;exact this
 unfold cY;have e9:Ec (b.ag.set n {a with ae:=b.ag[n].ae})=Ec b.ag:=JK hn hk.symm;rw[e,e9]
 rfl
def Good.aH(hg:Good b){n:Nat}(hn:n<b.ag.length)(hk:b.ag[n].id=a.id)(ha:AG {a with ae:=b.ag[n].ae}):Good (b.aH a):=by
 have e:(b.aH a).ag=b.ag.set n {a with ae:=b.ag[n].ae}:=congrArg C.ag (Fa hg hn hk);have aa9:(b.aH a).ag.map (·.id)=b.ag.map (·.id):=by
  rw[e,List.map_set];refine List.ext_getElem (by simp) λi h1 h2=>?_;rw[List.getElem_set];split
  ·rename_i he;subst he;simp[hk]
  ·rfl
 refine⟨by rw[aa9];exact hg.ids,hg.names,by rw[e,aeV];exact hg.lh,hg.many,?_,hg.L5,hg.rising,hg.stamps,hg.clock,?_⟩
 ·rw[e];intro x hx;rcases aeG hx with hx|hx
  ·exact hg.Mo x hx
  ·subst hx;exact ha
 ·rw[e,aeV];exact hg.ae
def EF[i:Lc (bj p) L (b,hs) f](hf:b.find a.id=some old)(ha:AG {a with ae:=old.ae})(hl:hs.length<900000)
 (h:∀cT,Ext (cY b) hs (cY (b.aH a)) cT 1->T W (f (b.aH a,cT)) (K (.i 0))):T W L (gN (some ⟨p,0,none⟩) (ao a) K):=by
 refine Hb (p:=p) λla lk ti tn vs bx R hg hc lY=>?_;have lh:=hg.lh;obtain⟨n,hi⟩:∃n,(b.ag.findIdx? λx=>x.id=a.id)=some n:=by
  cases hi:(b.ag.findIdx? λx=>x.id=a.id) with
  |none=>rw[show b.find a.id=none from wP (key:=λx:aP=>x.id) hi] at hf;cases hf
  |some n=>exact⟨n,rfl⟩
 obtain⟨hn,hk,We⟩:=rR (key:=λx:aP=>x.id) hi;have e2:b.find a.id=some b.ag[n]:=We;rw[hf] at e2;have e3:=aea.inj e2;subst e3;have e1:(Ec b.ag).1 a.id=some (n:Int):=by show aft _ _=_;rw[hi];rfl
 have Co:=Fa hg hn hk;have JL:(dA la lk ti tn vs (cY b)).vs.length<1000000:=by show vs.reverse.length<_;rw[aeM,hc.len];omega
 unfold gN;apply ws;intros;refine B0 (b:=b) hg.lh ?_;rw[hf];simp only[aep,aes];apply ws;intros;refine zh (t:=ti) (x:=(cY b).lO) ?_;rw[show(cY b).lO.1 a.id=some (n:Int) from e1];simp only[aep,aes];apply ws;intros;refine VO (l:=la) (y:=b.ag[n]) (adQ hn) (show b.ag.length<_ by omega) JL λr4 r1 r2=>?_;apply ws;intros;refine cz (cz (cz (cz (cz ?_))));have Ek:∀kD,(∀x∈bx,x∈kD)->(r4,ao b.ag[n])∈kD->(r1,[.p (some (ad la 0))])∈kD->(r2,[.i (n:Int)])∈kD->fZ p la lk kD (zY r4 r1 r2::vs) (cY b::hs) (cY (b.aH a)):=by
  intro kD uV m1 m2 m3;refine⟨?_,hc.mono uV⟩;have:=zi.P8 (p:=p) (la:=la) (lk:=lk) (c:=cY (b.aH a)) m1 m2 m3 (by rw[Co];simpa using hn);have ee:{cY (b.aH a) with ag:=(cY (b.aH a)).ag.set n b.ag[n]}=cY b:=by
   rw[Co];simp only[ae4,List.set_getElem_self]
   rfl
  rw[ee] at this;exact this
 have fin:=λkD c1=>lY [] (b.aH a) (cY b::hs) (zY r4 r1 r2::vs) kD _ (hg.aH hn hk ha) c1 (h _ ⟨[cY b],rfl,rfl,adW _⟩);rw[Co] at fin;simp only[dA,afk] at fin;exact fin _ (Co▸Ek _ (λx hx=>by simp[hx]) (by simp) (by simp) (by simp))
end
section
variable {W:World} {L R:LH} {K:VK} {X:WK} {p:Nat} {b:ax} {hs:List C} {f:ax×List C->LH} {id:Nat} {a old:aP}
def Kj{q:Core}{f1:Core->LH}[i:Lc (dM p) L q f1](hl:q.vs.length<1000000)(hs:0<=q.ae/\q.ae<1000000)
 (h:∀r,T W (Sep.pt r [.p (some (ad p 0))]::f1 {q with vs:=q.vs++[wa r],ae:=q.ae+1}) (K (.i (q.ae+1)))):T W L (kE (some ⟨p,0,none⟩) K):=by
 unfold kE
 repeat' first|apply ws;intros|apply wb|with_reducible refine Ht ?_|fail
 rename_i r;rw[aw (by omega)];have i2:=i.next {q with ae:=q.ae+1};refine rE (p:=p) (q:={q with ae:=q.ae+1}) hl rfl rfl ?_;have i3:=i.next {q with vs:=q.vs++[wa r],ae:=q.ae+1};apply ws;intros;exact h r
def ax.more(b:ax)(a:aP):ax:={b with ae:=b.ae+1,ag:=b.ag++[{a with ae:=b.ae+1}]}
def Good.more(hg:Good b)(hf:b.find a.id=none)(lh:b.ag.length<32)(ha:AG {a with ae:=b.ae+1}):Good (b.more a):=by
 have rG:=hg.ae;have many:=hg.many;refine⟨?_,hg.names,by show(b.ag++[_]).length<=32;simp;omega,hg.many,?_,hg.L5,hg.rising,λk hk=>⟨(hg.stamps k hk).1,by have:=(hg.stamps k hk).2;show _<=b.ae+1;omega⟩,hg.clock,by show b.ae+1=(((b.ag++[_]).length:Nat):Int)+(b.kept.length:Int);simp;omega⟩
 ·show((b.ag++[_]).map _).Nodup;rw[aen];rw[List.nodup_append];refine⟨hg.ids,by simp,?_⟩;intro x hx y hy;simp at hy;subst hy;obtain⟨z,hz,rfl⟩:=aeA.1 hx;have:=afb.1 hf z hz;simpa using this
 ·intro x hx;rcases aeu.1 hx with hx|hx
  ·exact hg.Mo x hx
  ·simp at hx;subst hx;exact ha
def T6(hf:b.find a.id=none):cY (b.more a)={cY b with ae:=b.ae+1,lO:=(sj (cY b).lO.1 a.id (some (b.ag.length:Int)),(cY b).lO.2+1),ag:=b.ag++[{a with ae:=b.ae+1}]}:=by
 have e9:Ec (b.ag++[{a with ae:=b.ae+1}])=(sj (Ec b.ag).1 a.id (some (b.ag.length:Int)),(Ec b.ag).2+1):=wO (key:=λx:aP=>x.id) (x:={a with ae:=b.ae+1}) hf;unfold cY ax.more;dsimp only;rw[e9]
def E8{m:Nat->Option Int}{k:Nat}{v:Int}{n:Nat}(h:m k=none):(sj (sj m k (some v)) k none,n+1-1)=(m,n):=by
 refine Prod.ext ?_ rfl
 funext j
 dsimp only[sj];by_cases e:j=k
 ·subst e;rw[if_pos rfl,h]
 ·rw[if_neg e,if_neg e]
def Qb[i:Lc (bj p) L (b,hs) f](hf:b.find a.id=none)(lh:b.ag.length<32)(ha:AG {a with ae:=b.ae+1})(hl:hs.length<900000)
 (h:∀cT,Ext (cY b) hs (cY (b.more a)) cT 3->T W (f (b.more a,cT)) (K (.i 0))):T W L (jb (some ⟨p,0,none⟩) (ao a) K):=by
 refine Hb (p:=p) λla lk ti tn vs bx R hg hc lY=>?_;have rG:=hg.ae;have many:=hg.many;have kM:(Ec b.ag).1 a.id=none:=by show aft _ _=_;rw[mO (key:=λx:aP=>x.id) hf];rfl
 have JL:vs.reverse.length<900000:=by rw[aeM,hc.len];omega
 unfold jb;apply ws;intros;refine IU (l:=la) ?_;apply ws;intros;refine dX (by show decide (((b.ag.length:Nat):Int)>=32)=false;simp;omega) ?_;apply ws;intros;refine zh (t:=ti) (x:=(cY b).lO) ?_;rw[show(cY b).lO.1 a.id=none from kM];simp only[aew,aeI];apply ws;intros;refine Kj (p:=p) (q:=dA la lk ti tn vs (cY b)) (by show vs.reverse.length<_;omega) (by show 0<=b.ae/\b.ae<_;omega) λr3=>?_;apply ws;intros;refine IU (l:=la) ?_;apply ws;intros;refine Ki (t:=ti) (x:=(cY b).lO) (show b.ag.length<=1000 by omega) kM ?_;apply ws;intros;refine rE (p:=p) (by show(vs.reverse++[_]).length<_;simp at JL⊢;omega) rfl rfl ?_;apply ws;intros;refine Pj (l:=la) (x:={a with ae:=b.ae+1}) (show b.ag.length<_ by omega) (by show((vs.reverse++[_])++[_]).length<_;simp at JL⊢;omega) λr4 r5=>?_;apply ws;intros;rename_i r1 r2;refine cz (cz (cz (cz (cz ?_))));have Co:=T6 (a:=a) hf;have Ek:∀kD,(∀x∈bx,x∈kD)->(r1,[.p (some (ad p 0))])∈kD->(r2,ao {a with ae:=b.ae+1})∈kD->(r3,[.p (some (ad p 0))])∈kD->(r4,[.p (some (ad la 0))])∈kD->(r5,[.i (b.ag.length:Int)])∈kD->
                                                                                                                                                                                                    fZ p la lk kD (xi r4 r5::MC r1 r2::wa r3::vs) ({cY b with ae:=b.ae+1,lO:=(sj (cY b).lO.1 a.id (some (b.ag.length:Int)),(cY b).lO.2+1)}::{cY b with ae:=b.ae+1}::cY b::hs) (cY (b.more a)):=by
  intro kD uV m1 m2 m3 m4 m5;refine⟨?_,?_,?_,hc.mono uV⟩
  ·have:=zi.RT (p:=p) (la:=la) (lk:=lk) (c:=cY (b.more a)) m4 m5 (by show b.ag.length<=(b.ag++[_]).length;simp);have ee:{cY (b.more a) with ag:=(cY (b.more a)).ag.take b.ag.length}={cY b with ae:=b.ae+1,lO:=(sj (cY b).lO.1 a.id (some (b.ag.length:Int)),(cY b).lO.2+1)}:=by
    rw[Co];dsimp only;rw[List.take_left];rfl
   rw[ee] at this;exact this
  ·have:=zi.open_ (p:=p) (la:=la) (lk:=lk) (c:={cY b with ae:=b.ae+1,lO:=(sj (cY b).lO.1 a.id (some (b.ag.length:Int)),(cY b).lO.2+1)}) (x:={a with ae:=b.ae+1}) m1 m2 (show b.ag.length+1<=1000 by omega) (by show(sj _ _ _ _).isSome=true;unfold sj;rw[if_pos rfl];rfl) (E8 (show(cY b).lO.1 a.id=none from kM));exact this
  ·exact zi.next (c:={cY b with ae:=b.ae+1}) m3 (by show adN.wrap (b.ae+1-1)=b.ae;rw[aw (by omega)];omega)
 have fin:=λkD c1=>lY [] (b.more a) _ (xi r4 r5::MC r1 r2::wa r3::vs) kD _ (hg.more hf lh ha) c1 (h _ ⟨[{cY b with ae:=b.ae+1,lO:=(sj (cY b).lO.1 a.id (some (b.ag.length:Int)),(cY b).lO.2+1)},{cY b with ae:=b.ae+1},cY b],rfl,rfl,adW _⟩);rw[Co] at fin;simp only[dA,afk] at fin;exact fin _ (Co▸Ek _ (λx hx=>by simp[hx]) (by repeat (first|exact aeF.head _|apply aeF.tail)) (by repeat (first|exact aeF.head _|apply aeF.tail)) (by repeat (first|exact aeF.head _|apply aeF.tail)) (by repeat (first|exact aeF.head _|apply aeF.tail)) (by repeat (first|exact aeF.head _|apply aeF.tail)))
end
section
variable {W:World} {L R:LH} {K:VK} {X:WK} {p:Nat} {b:ax} {hs:List C} {f:ax×List C->LH} {id:Nat} {k:Kept} {asked t:Move} {fate:Int}
instance{x1 x2 x3 x4:Value}{x y:Int}{n:Nat}:Wr [x1,x2,x3,x4] 0 ([.i x,.i y]++(nm n++[])) (dG ⟨x,y,n⟩):=⟨by simp[over,dG,nm],by simp[nm],λv h=>my ⟨x,y,n⟩ v (by simpa [dG] using h)⟩
def T.Iu{la lk ti tn:Nat}{vs:LV}{st:List km}{e e':List Item}{x y:Int}(he:e.Perm e')(h:T W (dM p ⟨la,lk,ti,tn,vs,st,e',x,y⟩::R) X):T W (dM p ⟨la,lk,ti,tn,vs,st,e,x,y⟩::R) X:=T.DA (q:=⟨la,lk,ti,tn,vs,st,e,x,y⟩) he h
def Ip(k:Kept):Item:=⟨k.move.born+k.move.timeout,k.move.ae,k.move.id⟩
def Om(hk:KG k)(h:T W L (K (.tuple ⟨[.agg ⟨dG (Ip k)⟩,.bool (df k).isSome]⟩))):T W L (pX (aI k) K):=by
 have h1:=hk.timeout;have h2:=hk.born;unfold pX;apply ws;intros;rw[aw (by omega)];have hd:(df k).isSome=decide (k.fate=1/\0<k.move.timeout):=by
  unfold df;split
  ·rename_i hc;simp[hc]
  ·rename_i hc;simp[hc]
 rw[hd] at h;refine bB (λg=>?_) (λg=>?_)
 ·have g:k.fate=1:=by simpa using g
  apply ws;intros;refine T.fin (by exact T.dp h) ?_
  congr 3
  simp[g]
 ·have g: ¬k.fate=1:=by simpa using g
  apply ws;intros;refine T.fin (by exact T.dp h) ?_
  congr 3
  simp[g]
def Good.jT(hg:Good b)(hf:b.named t.id=none)(many:b.kept.length<96)(hk:KG ⟨asked,{t with ae:=b.ae+1,born:=b.clock},fate⟩):Good (b.jT asked t fate):=by
 have rG:=hg.ae;refine⟨hg.ids,?_,hg.lh,by show(b.kept++[_]).length<=96;simp;omega,hg.Mo,?_,?_,?_,hg.clock,by show b.ae+1=_+(((b.kept++[_]).length:Nat):Int);simp;show _=(b.ag.length:Int)+_;omega⟩
 ·show((b.kept++[_]).map _).Nodup;rw[aen,List.nodup_append];refine⟨hg.names,by simp,?_⟩;intro x hx y hy;simp at hy;subst hy;obtain⟨z,hz,rfl⟩:=aeA.1 hx;have:=afb.1 hf z hz;simpa using this
 ·intro x hx;rcases aeu.1 hx with hx|hx
  ·exact hg.L5 x hx
  ·simp at hx;subst hx;exact hk
 ·show(b.kept++[_]).Pairwise _;rw[List.pairwise_append];refine⟨hg.rising,by simp,λx hx y hy=>?_⟩;simp at hy;subst hy;have:=(hg.stamps x hx).2;show _<b.ae+1;omega
 ·intro x hx;rcases aeu.1 hx with hx|hx
  ·have:=hg.stamps x hx;show _/\_<=b.ae+1;omega
  ·simp at hx;subst hx;show 1<=b.ae+1/\b.ae+1<=b.ae+1;omega
abbrev o7(b:ax)(asked t:Move)(fate:Int):Kept:=⟨asked,{t with ae:=b.ae+1,born:=b.clock},fate⟩
def T9(hf:b.named t.id=none):cY (b.jT asked t fate)={cY b with ae:=b.ae+1,kept:=b.kept++[o7 b asked t fate],ef:=(sj (cY b).ef.1 t.id (some (b.kept.length:Int)),(cY b).ef.2+1),stamps:=(cY b).stamps++[(b.ae+1,(b.kept.length:Int))],ends:=(cY b).ends++(df (o7 b asked t fate)).toList}:=by
 have e9:B2 (b.kept++[o7 b asked t fate])=(sj (B2 b.kept).1 t.id (some (b.kept.length:Int)),(B2 b.kept).2+1):=wO (key:=λx:Kept=>x.move.id) (x:=o7 b asked t fate) hf;unfold cY ax.jT;dsimp only;rw[e9,ri,List.filterMap_append,adU]
 congr 1
def Jh{waits:Bool}[i:Lc (bj p) L (b,hs) f](hf:b.named t.id=none)(many:b.kept.length<96)(hk:KG (o7 b asked t fate))(hw:fate=if waits then 1 else 0)(hl:hs.length<900000)
 (h:∀cT,Ext (cY b) hs (cY (b.jT asked t fate)) cT 4->T W (f (b.jT asked t fate,cT)) (K (.i 0))):T W L (eB (some ⟨p,0,none⟩) (ai asked) (ai t) waits K):=by
 refine Hb (p:=p) λla lk ti tn vs bx R hg hc lY=>?_;have rG:=hg.ae;have lh:=hg.lh;have kM:(B2 b.kept).1 t.id=none:=by show aft _ _=_;rw[mO (key:=λx:Kept=>x.move.id) hf];rfl
 have JL:vs.reverse.length<900000:=by rw[aeM,hc.len];omega
 unfold eB;apply ws;intros;refine IN (l:=lk) ?_;apply ws;intros;refine dX (by show decide (((b.kept.length:Nat):Int)>=96)=false;simp;omega) ?_;apply ws;intros;refine zh (t:=tn) (x:=(cY b).ef) ?_;rw[show(cY b).ef.1 t.id=none from kM];simp only[aew,aeI];apply ws;intros;rename_i r1 r2 r3 r4;have main:T W (Sep.pt r4 (aI ⟨asked,t,fate⟩)::Sep.pt r3 (ai t)::Sep.pt r2 (ai asked)::Sep.pt r1 [.p (some (ad p 0))]::dM p (dA la lk ti tn vs (cY b))::od ao 14 la (p,(cY b).ag)::od aI 33 lk (p,(cY b).kept)::ln ti (cY b).lO::ln tn (cY b).ef::rA bx::R) (eB.j1 K r1 r4 r3):=by
  unfold eB.j1;apply ws;intros;refine Kj (p:=p) (q:=dA la lk ti tn vs (cY b)) (by show vs.reverse.length<_;omega) (by show 0<=b.ae/\b.ae<_;omega) λr5=>?_;apply ws;intros;refine Pa (l:=lk) (x:=o7 b asked t fate) (show b.kept.length<_ by omega) (by show(vs.reverse++[_]).length<_;simp at JL⊢;omega) λr6 r7=>?_;apply ws;intros;refine Ki (t:=tn) (x:=(cY b).ef) (show b.kept.length<=1000 by omega) kM ?_;apply ws;intros;refine J1 (p:=p) hg.tQ (by show(cL 0 b.kept).length<_;rw[iN];omega) (λx hx=>by
   obtain⟨k,hk,e⟩:=wh hx
   have:=(hg.stamps k hk).2
   show x.1<b.ae+1
   omega) ?_
  apply ws;intros;refine rE (p:=p) (by show((vs.reverse++[_])++[_]).length<_;simp at JL⊢;omega) rfl rfl ?_;apply ws;intros;refine Om (k:=o7 b asked t fate) hk ?_;apply ws;intros;rename_i r8;have Co:=T9 (asked:=asked) (fate:=fate) hf;have Ek:∀kD,(∀x∈bx,x∈kD)->(r1,[.p (some (ad p 0))])∈kD->(r3,ai t)∈kD->(r4,aI (o7 b asked t fate))∈kD->(r5,[.p (some (ad p 0))])∈kD->(r6,[.p (some (ad lk 0))])∈kD->(r7,[.i (b.kept.length:Int)])∈kD->
   fZ p la lk kD (Al r1 r3 r4::qZ r6 r7::wa r5::vs) ({cY b with ae:=b.ae+1,kept:=b.kept++[o7 b asked t fate]}::{cY b with ae:=b.ae+1}::cY b::hs)
    {cY b with ae:=b.ae+1,kept:=b.kept++[o7 b asked t fate],ef:=(sj (cY b).ef.1 t.id (some (b.kept.length:Int)),(cY b).ef.2+1),stamps:=(cY b).stamps++[(b.ae+1,(b.kept.length:Int))]}:=by
   intro kD uV m1 m2 m3 m4 m5 m6;refine⟨?_,?_,?_,hc.mono uV⟩
   ·exact zi.JH (p:=p) (la:=la) (lk:=lk) (c:={cY b with ae:=b.ae+1,kept:=b.kept++[o7 b asked t fate],ef:=(sj (cY b).ef.1 t.id (some (b.kept.length:Int)),(cY b).ef.2+1),stamps:=(cY b).stamps++[(b.ae+1,(b.kept.length:Int))]}) (t:=t) (k:=o7 b asked t fate) (l0:=(cY b).stamps) m1 m2 m3 (show b.kept.length+1<=1000 by omega) (by show(sj _ _ _ _).isSome=true;unfold sj;rw[if_pos rfl];rfl)
     (by have:=(hg.jT hf many hk).tQ
         have e:cL 0 (b.jT asked t fate).kept=(cY b).stamps++[(b.ae+1,(b.kept.length:Int))]:=congrArg C.stamps Co
         rw[e] at this;exact this)
     (by show(cL 0 b.kept++[_]).length<_;rw[adT,iN];simp;omega) rfl (E8 (show(cY b).ef.1 t.id=none from kM))
   ·have:=zi.RR (p:=p) (la:=la) (lk:=lk) (c:={cY b with ae:=b.ae+1,kept:=b.kept++[o7 b asked t fate]}) m5 m6 (by show b.kept.length<=(b.kept++[_]).length;simp);have ee:({({cY b with ae:=b.ae+1,kept:=b.kept++[o7 b asked t fate]}:C) with kept:=(b.kept++[o7 b asked t fate]).take b.kept.length}:C)={cY b with ae:=b.ae+1}:=by rw[List.take_left];rfl
    rw[ee] at this;exact this
   ·exact zi.next (c:={cY b with ae:=b.ae+1}) m4 (by show adN.wrap (b.ae+1-1)=b.ae;rw[aw (by omega)];omega)
  cases hd:df (o7 b asked t fate) with
  |none=>
   simp only[aew];apply ws;intros;refine cz (cz (cz (cz (cz (cz (cz (cz ?_)))))));rw[hd] at Co;simp only[Option.toList_none,aeb] at Co;have fin:=λkD c1=>lY [] (b.jT asked t fate) _ (Al r1 r3 r4::qZ r6 r7::wa r5::vs) kD _ (hg.jT hf many hk) c1 (h _ ⟨[{cY b with ae:=b.ae+1,kept:=b.kept++[o7 b asked t fate]},{cY b with ae:=b.ae+1},cY b],rfl,rfl,by simp⟩);rw[Co] at fin;simp only[dA,afk] at fin;exact fin _ (Ek _ (λx hx=>by simp[hx]) (by repeat (first|exact aeF.head _|apply aeF.tail)) (by repeat (first|exact aeF.head _|apply aeF.tail)) (by repeat (first|exact aeF.head _|apply aeF.tail)) (by repeat (first|exact aeF.head _|apply aeF.tail)) (by repeat (first|exact aeF.head _|apply aeF.tail)) (by repeat (first|exact aeF.head _|apply aeF.tail)))
  |some x=>
   have ex:Ip (o7 b asked t fate)=x:=by
    unfold df at hd;split at hd
    ·cases hd;rfl
    ·cases hd
   simp only[aep];apply ws;intros;simp only[dW,adU];rw[ex];refine Ey (p:=p) (e':=(cY b).ends++[x]) (by have:=xa b;show(b.kept.filterMap df).length<_;omega) (aeh.refl _) ?_;apply ws;intros;refine rE (p:=p) (by show(((vs.reverse++[_])++[_])++[_]).length<_;simp at JL⊢;omega) rfl rfl ?_;apply ws;intros;refine cz (cz (cz (cz (cz (cz (cz (cz ?_)))))));rw[hd] at Co;simp only[Option.toList_some] at Co;have hsx:=(nw hd).1;have N2:∀kD,(∀x∈bx,x∈kD)->(r1,[.p (some (ad p 0))])∈kD->(r3,ai t)∈kD->(r4,aI (o7 b asked t fate))∈kD->(r5,[.p (some (ad p 0))])∈kD->(r6,[.p (some (ad lk 0))])∈kD->(r7,[.i (b.kept.length:Int)])∈kD->(r8,dG x)∈kD->
                                                       fZ p la lk kD (Hr r1 r8::Al r1 r3 r4::qZ r6 r7::wa r5::vs) ({cY b with ae:=b.ae+1,kept:=b.kept++[o7 b asked t fate],ef:=(sj (cY b).ef.1 t.id (some (b.kept.length:Int)),(cY b).ef.2+1),stamps:=(cY b).stamps++[(b.ae+1,(b.kept.length:Int))]}::{cY b with ae:=b.ae+1,kept:=b.kept++[o7 b asked t fate]}::{cY b with ae:=b.ae+1}::cY b::hs)
                                                        (cY (b.jT asked t fate)):=by
    intro kD uV m1 m2 m3 m4 m5 m6 m7;refine⟨?_,Ek kD uV m1 m2 m3 m4 m5 m6⟩;rw[Co];exact zi.JF (p:=p) (la:=la) (lk:=lk) (c:={cY b with ae:=b.ae+1,kept:=b.kept++[o7 b asked t fate],ef:=(sj (cY b).ef.1 t.id (some (b.kept.length:Int)),(cY b).ef.2+1),stamps:=(cY b).stamps++[(b.ae+1,(b.kept.length:Int))],ends:=(cY b).ends++[x]}) (e':=(cY b).ends) m1 m7
     (by have:=xa b;show(b.kept.filterMap df++[x]).length<_;simp;omega) (adY (l₁:=[x])) (λy hy=>by
      obtain⟨k,hk,e⟩:=List.mem_filterMap.1 hy
      have h1:=(nw e).1
      have h2:=(hg.stamps k hk).2
      rw[hsx]
      show y.ae≠b.ae+1
      omega)
   have fin:=λkD c1=>lY [] (b.jT asked t fate) _ (Hr r1 r8::Al r1 r3 r4::qZ r6 r7::wa r5::vs) kD _ (hg.jT hf many hk) c1 (h _ ⟨[{cY b with ae:=b.ae+1,kept:=b.kept++[o7 b asked t fate],ef:=(sj (cY b).ef.1 t.id (some (b.kept.length:Int)),(cY b).ef.2+1),stamps:=(cY b).stamps++[(b.ae+1,(b.kept.length:Int))]},{cY b with ae:=b.ae+1,kept:=b.kept++[o7 b asked t fate]},{cY b with ae:=b.ae+1},cY b],rfl,rfl,by simp⟩);rw[Co] at fin N2;simp only[dA,afk] at fin;exact fin _ (N2 _ (λx hx=>by simp[hx]) (by repeat (first|exact aeF.head _|apply aeF.tail)) (by repeat (first|exact aeF.head _|apply aeF.tail)) (by repeat (first|exact aeF.head _|apply aeF.tail)) (by repeat (first|exact aeF.head _|apply aeF.tail)) (by repeat (first|exact aeF.head _|apply aeF.tail)) (by repeat (first|exact aeF.head _|apply aeF.tail)) (by repeat (first|exact aeF.head _|apply aeF.tail)))
 refine bB (λg=>?_) (λg=>?_)
 ·rw[g] at hw;apply ws;intros;rw[if_pos rfl] at hw;rw[hw] at main;exact main
 ·rw[g,if_neg (by decide)] at hw;rw[hw] at main;exact main
def Oa(hg:Good b){n:Nat}(hn:n<b.kept.length)(h1:b.kept[n].fate=1)(zR:fate=2\/fate=3\/fate=4):cY (b.fate b.kept[n].move.id fate)={cY b with kept:=b.kept.set n {b.kept[n] with fate:=fate},ends:=(b.kept.set n {b.kept[n] with fate:=fate}).filterMap df}:=by
 have e:(b.fate b.kept[n].move.id fate).kept=b.kept.set n {b.kept[n] with fate:=fate}:=by
  show(b.kept.map λk=>if k.move.id=b.kept[n].move.id/\k.fate=1 then{k with fate:=fate} else k)=_;have:=map_set (key:=λx:Kept=>x.move.id) hg.names hn λk=>if k.fate=1 then{k with fate:=fate} else k
  rw[if_pos h1] at this;rw[<-this];apply ae7;intro k hk;by_cases e1:k.move.id=b.kept[n].move.id<;>by_cases e2:k.fate=1<;>simp[e1,e2]
 have e9:B2 (b.kept.set n {b.kept[n] with fate:=fate})=B2 b.kept:=JK (key:=λx:Kept=>x.move.id) hn rfl;unfold cY;rw[e,e9,DP (k:={b.kept[n] with fate:=fate}) 0 hn rfl]
 rfl
def Good.Yi(hg:Good b){n:Nat}(hn:n<b.kept.length)(h1:b.kept[n].fate=1)(zR:fate=2\/fate=3\/fate=4):Good (b.fate b.kept[n].move.id fate):=by
 have e:(b.fate b.kept[n].move.id fate).kept=b.kept.set n {b.kept[n] with fate:=fate}:=congrArg C.kept (Oa hg hn h1 zR);have em:∀{β:Type}(g:Kept->β),(∀k:Kept,g {k with fate:=fate}=g k)->(b.fate b.kept[n].move.id fate).kept.map g=b.kept.map g:=by
  intro β g hgg;rw[e,List.map_set];refine List.ext_getElem (by simp) λi h1 h2=>?_;rw[List.getElem_set];split
  ·rename_i he;subst he;simp[hgg]
  ·rfl
 have hk:=hg.L5 _ (aee hn);refine⟨hg.ids,by rw[em (λx=>x.move.id) λ_=>rfl];exact hg.names,hg.lh,by rw[e,aeV];exact hg.many,hg.Mo,?_,?_,?_,hg.clock,by rw[e,aeV];exact hg.ae⟩
 ·rw[e];intro x hx;rcases aeG hx with hx|hx
  ·exact hg.L5 x hx
  ·subst hx;exact⟨hk.asked,hk.move,hk.IH,hk.Jw,hk.qx,hk.rN,by show 0<=fate/\fate<=4;omega,hk.timeout,hk.born⟩
 ·have h2:=hg.rising;have:((b.fate b.kept[n].move.id fate).kept.map λx=>x.move.ae).Pairwise (·<·):=by
   rw[em (λx=>x.move.ae) λ_=>rfl];exact List.pairwise_map.2 h2
  exact List.pairwise_map.1 this
 ·rw[e];intro x hx;rcases aeG hx with hx|hx
  ·exact hg.stamps x hx
  ·subst hx;exact hg.stamps b.kept[n] (aee hn)
def TN[i:Lc (bj p) L (b,hs) f](hn:b.named id=some k)(h1:k.fate=1)(zR:fate=2\/fate=3\/fate=4)(hl:hs.length<900000)
 (h:∀cT,Ext (cY b) hs (cY (b.fate id fate)) cT 2->T W (f (b.fate id fate,cT)) (K (.i 0))):T W L (bw (some ⟨p,0,none⟩) (nm id) fate K):=by
 refine Hb (p:=p) λla lk ti tn vs bx R hg hc lY=>?_;have lh:=hg.lh;have many:=hg.many;obtain⟨n,hi⟩:∃n,(b.kept.findIdx? λx=>x.move.id=id)=some n:=by
  cases hi:(b.kept.findIdx? λx=>x.move.id=id) with
  |none=>rw[show b.named id=none from wP (key:=λx:Kept=>x.move.id) hi] at hn;cases hn
  |some n=>exact⟨n,rfl⟩
 obtain⟨Uw,hk,We⟩:=rR (key:=λx:Kept=>x.move.id) hi;have e2:b.named id=some b.kept[n]:=We;rw[hn] at e2;have e3:=aea.inj e2;subst e3;subst hk;have e1:(B2 b.kept).1 b.kept[n].move.id=some (n:Int):=by show aft _ _=_;rw[hi];rfl
 have Co:=Oa hg Uw h1 zR;have XJ:=hg.L5 _ (aee Uw);have JL:vs.reverse.length<900000:=by rw[aeM,hc.len];omega
 have Gb:df {b.kept[n] with fate:=fate}=none:=by unfold df;rw[if_neg];show ¬(fate=1/\_);omega
 unfold bw;apply ws;intros;refine EM (b:=b) hg.many ?_;rw[hn];simp only[aep,aes];apply ws;intros;rename_i r1 r2 r3;unfold bw.j1;refine dX (by simpa using h1) ?_;unfold bw.j2;refine dX (by simp;omega) ?_;refine dX (by simp;omega) ?_;apply ws;intros;refine Om (k:=b.kept[n]) XJ ?_;apply ws;intros;rename_i r4;have main:∀(q:Core)(tG:LV)(fj:List C)(c2:C),q=dA la lk ti tn tG c2->c2={cY b with ends:=q.ends}->q.ends.Perm ((b.kept.set n {b.kept[n] with fate:=fate}).filterMap df)->tG.length<=vs.length+1->
                                                          (∀kD,(∀x∈bx,x∈kD)->(r1,[.p (some (ad p 0))])∈kD->(r4,dG (Ip b.kept[n]))∈kD->fZ p la lk kD tG fj {cY b with ends:=(b.kept.set n {b.kept[n] with fate:=fate}).filterMap df})->
                                                          Ext (cY b) hs (cY (b.fate b.kept[n].move.id fate)) ({cY b with ends:=(b.kept.set n {b.kept[n] with fate:=fate}).filterMap df}::fj) 2->
                                                          T W (Sep.pt r4 (dG (Ip b.kept[n]))::Sep.pt r3 (aI b.kept[n])::Sep.pt r2 (nm b.kept[n].move.id)::Sep.pt r1 [.p (some (ad p 0))]::dM p q::od ao 14 la (p,b.ag)::od aI 33 lk (p,b.kept)::ln ti (Ec b.ag)::ln tn (B2 b.kept)::rA bx::R) (bw.j4 K r1 r2 r3 fate):=by
  rintro q tG fj c2 rfl Mk hpm aaq Ek aaK;unfold bw.j4;have SE:(dA la lk ti tn tG c2).vs.length<1000000:=by show tG.reverse.length<_;rw[aeM];rw[aeM] at JL;omega
  apply ws;intros;refine zh (t:=tn) (x:=B2 b.kept) ?_;rw[e1];simp only[aep,aes];apply ws;intros;refine VF (l:=lk) (y:=b.kept[n]) (x:={b.kept[n] with fate:=fate}) (adQ Uw) (by omega) SE λr5 r6 r7=>?_;apply ws;intros;refine cz (cz (cz (cz (cz (cz (cz ?_))))));refine T.Iu (e':=(b.kept.set n {b.kept[n] with fate:=fate}).filterMap df) hpm ?_;have fin:=λkD(c1:fZ p la lk kD (xh r5 r6 r7::tG) ({cY b with ends:=(b.kept.set n {b.kept[n] with fate:=fate}).filterMap df}::fj) (cY (b.fate b.kept[n].move.id fate)))=>lY [] (b.fate b.kept[n].move.id fate) _ (xh r5 r6 r7::tG) kD _ (hg.Yi Uw h1 zR) c1 (h _ aaK);have N2:∀kD,(∀x∈bx,x∈kD)->(r1,[.p (some (ad p 0))])∈kD->(r4,dG (Ip b.kept[n]))∈kD->(r5,aI b.kept[n])∈kD->(r6,[.p (some (ad lk 0))])∈kD->(r7,[.i (n:Int)])∈kD->
                                                         fZ p la lk kD (xh r5 r6 r7::tG) ({cY b with ends:=(b.kept.set n {b.kept[n] with fate:=fate}).filterMap df}::fj) (cY (b.fate b.kept[n].move.id fate)):=by
   intro kD uV m1 m2 m3 m4 m5;refine⟨?_,Ek kD uV m1 m2⟩;have:=zi.P7 (p:=p) (la:=la) (lk:=lk) (c:=cY (b.fate b.kept[n].move.id fate)) m3 m4 m5 (by rw[Co];simpa using Uw);have ee:{cY (b.fate b.kept[n].move.id fate) with kept:=(cY (b.fate b.kept[n].move.id fate)).kept.set n b.kept[n]}={cY b with ends:=(b.kept.set n {b.kept[n] with fate:=fate}).filterMap df}:=by
    rw[Co];simp only[ae4,List.set_getElem_self]
    rfl
   rw[ee] at this;exact this
  rw[Co] at fin N2;simp only[dA,afk] at fin;rw[Mk];exact fin _ (N2 _ (λx hx=>by simp[hx]) (by repeat (first|exact aeF.head _|apply aeF.tail)) (by repeat (first|exact aeF.head _|apply aeF.tail)) (by repeat (first|exact aeF.head _|apply aeF.tail)) (by repeat (first|exact aeF.head _|apply aeF.tail)) (by repeat (first|exact aeF.head _|apply aeF.tail)))
 cases hd:df b.kept[n] with
 |none=>
  simp only[aew];apply ws;intros;unfold bw.j3;refine qf ?_;have hes:=Cs Uw Gb hd;have N3:({cY b with ends:=(b.kept.set n {b.kept[n] with fate:=fate}).filterMap df}:C)=cY b:=by rw[hes];rfl
  refine main (dA la lk ti tn vs (cY b)) vs hs (cY b) rfl rfl (by rw[hes];exact aeh.refl _) (by omega) (λkD uV _ _=>by rw[N3];exact hc.mono uV) (by rw[N3];exact⟨[cY b],rfl,rfl,by simp⟩)
 |some x=>
  have ex:Ip b.kept[n]=x:=by
   unfold df at hd;split at hd
   ·cases hd;rfl
   ·cases hd
  obtain⟨Us,Ga⟩:=hg.Od Uw Gb hd;simp only[aep];apply ws;intros;simp only[dW,adU];have hsx:b.kept[n].move.ae=x.ae:=(nw hd).1.symm;refine GH (p:=p) (q:=dA la lk ti tn vs (cY b)) (by have:=xa b;show(b.kept.filterMap df).length<_;omega) (λy e' hy hpy=>?_) (λEg=>?_)
  ·apply ws;intros;unfold bw.j3;refine tL ?_;apply ws;intros;refine rE (p:=p) (by show vs.reverse.length<_;omega) rfl rfl ?_;apply ws;intros;have hpe:e'.Perm ((b.kept.set n {b.kept[n] with fate:=fate}).filterMap df):=CA Us hpy (by rw[hy,<-ex]) Ga;have:=main ⟨la,lk,ti,tn,vs.reverse++[Tr r1 r4],(cY b).stamps,e',(cY b).clock,(cY b).ae⟩ (Tr r1 r4::vs) (cY b::hs) {cY b with ends:=e'} (by simp[dA]) rfl hpe (by simp) (λkD uV m1 m2=>⟨?_,hc.mono uV⟩) ⟨[{cY b with ends:=(b.kept.set n {b.kept[n] with fate:=fate}).filterMap df},cY b],rfl,rfl,by simp⟩
   ·exact this
   ·rw[ex] at m2;exact zi.end_ (p:=p) (la:=la) (lk:=lk) (c:={cY b with ends:=(b.kept.set n {b.kept[n] with fate:=fate}).filterMap df}) (e':=(cY b).ends) m1 m2 (by have h3:=List.length_filterMap_le df (b.kept.set n {b.kept[n] with fate:=fate});rw[aeV] at h3;show List.length (List.filterMap _ _)<_;omega) (Us.symm.trans (adY (l₁:=[x])))
  ·refine absurd ?_ (Eg x (Us.mem_iff.1 (by simp)));rw[<-ex]
end
def fU(d c:aP):LV:=ao d++ao c
def xz(d c:aP):∀v∈fU d c,v.oneCell'=true:=k8 (eV _) (eV _)
instance{d c:aP}:Ln (fU d c) 28:=⟨rfl⟩
instance{d c:aP}:Gt (fU d c) 12 (.i d.flags):=⟨rfl⟩
instance{d c:aP}:Gt (fU d c) 26 (.i c.flags):=⟨rfl⟩
section
variable {d c e:aP} {i:Int} {x1 x2 x3 x4 x5 x6 x7 x8 x9 zC zB zz zy Cy Ha G' PK PI Tm Tl Tk Tj Ti Th Tg Tf Te Td:Value}
instance:Sub (fU d c) 0 28 (fU d c):=⟨rfl,λj v h=>by rw[adU];exact h⟩
instance:Sub (fU d c) 0 14 (ao d):=⟨rfl,λj v h=>by rw[adU];unfold fU;rw[aec (adS.1 h).1];exact h⟩
instance:Sub (fU d c) 14 14 (ao c):=⟨rfl,λj v h=>by
 have hl:(ao d).length=14:=rfl
 unfold fU
 rw[aeo (by omega),hl,show 14+j-14=j by omega];exact h⟩
instance:Wr (fU d c) 0 (ao e) (fU e c):=⟨rfl,by show 14<=28;decide,eV e⟩
instance:Wr (fU d c) 14 (ao e) (fU d e):=⟨rfl,by show 28<=28;decide,eV e⟩
instance:Wr (fU d c) 12 [.i i] (fU {d with flags:=i} c):=⟨rfl,by show 13<=28;decide,λv h=>by simp at h;subst h;rfl⟩
instance:Wr (fU d c) 26 [.i i] (fU d {c with flags:=i}):=⟨rfl,by show 27<=28;decide,λv h=>by simp at h;subst h;rfl⟩
instance:Wr [x1,x2,x3,x4,x5,x6,x7,x8,x9,zC,zB,zz,zy,Cy,Ha,G',PK,PI,Tm,Tl,Tk,Tj,Ti,Th,Tg,Tf,Te,Td] 0 (fU d c) (fU d c):=⟨rfl,adW _,xz d c⟩
instance:Wr [x1,x2,x3,x4,x5,x6,x7,x8,x9,zC,zB,zz,zy,Cy,Ha,G',PK,PI,Tm,Tl,Tk,Tj,Ti,Th,Tg,Tf,Te,Td] 0 (ao d++(ao c++[])) (fU d c):=⟨rfl,adW _,by rw[aeb];exact xz d c⟩
instance:Wr [x1,x2,x3,x4,x5,x6,x7,x8,x9,zC,zB,zz,zy,Cy,Ha,G',PK,PI,Tm,Tl,Tk,Tj,Ti,Th,Tg,Tf,Te,Td] 0 [.u 0,.u 0,.u 0,.u 0,.u 0,.u 0,.u 0,.u 0,.u 0,.u 0,.i 0,.i 0,.i 0,.i 0,.u 0,.u 0,.u 0,.u 0,.u 0,.u 0,.u 0,.u 0,.u 0,.u 0,.i 0,.i 0,.i 0,.i 0] (fU zA zA):=⟨rfl,adW _,xz zA zA⟩
end
def py(d c:Option aP)(t:Move):Int:=match d with
 |none=>19
 |some d=>match c with
  |none=>20
  |some c=>if d.aF≠c.aF then 21 else if d.aF≠t.aF then 22 else if 8<=d.flags then 30 else if 8<=c.flags then 31 else 0
def Q8{f:Int}(h0:0<=f)(h1:f<16):(bA .i64 .and f 8!=0)=decide (8<=f):=by
 rw[aed];simp only[bne_iff_ne,ne_eq,decide_eq_true_eq];rw[OH h0 (by omega)];unfold has;omega
section
variable {W:World} {L R:LH} {K:VK} {X:WK} {p:Nat} {b:ax} {hs:List C} {f:ax×List C->LH} {t:Move} {d c:aP} {n:Nat}
def QJ[i:Lc (bj p) L (b,hs) f](h0:∀d c,py (b.find t.aE) (b.find t.ar) t≠0->T W L (K (.tuple ⟨[.agg ⟨fU d c⟩,.i (py (b.find t.aE) (b.find t.ar) t)]⟩)))
 (h:∀d c,b.find t.aE=some d->b.find t.ar=some c->py (b.find t.aE) (b.find t.ar) t=0->T W L (K (.tuple ⟨[.agg ⟨fU d c⟩,.i 0]⟩))):T W L (uG (some ⟨p,0,none⟩) (ai t) K):=by
 refine mX (p:=p) λhg=>?_;unfold uG
 repeat' first|apply ws;intros|apply wb|with_reducible refine sh ?_|fail
 cases hd:b.find t.aE with
 |none=>
  rw[hd] at h0;simp only[aew,aeI];have:=h0 zA zA (by show(19:Int)≠0;decide);apply ws;intros;exact T.dp this
 |some d=>
  cases hc:b.find t.ar with
  |none=>
   rw[hd,hc] at h0;simp only[aew,aeI,aep,aes];have:=h0 zA zA (by show(20:Int)≠0;decide);apply ws;intros;exact T.dp this
  |some c=>
   rw[hd,hc] at h0 h;have fd:=(hg.Mo d (aeO hd)).flags;have fc:=(hg.Mo c (aeO hc)).flags;simp only[aep,aes];apply ws;intros;refine bB (λg1=>?_) (λg1=>?_)
   ·have g1:d.aF≠c.aF:=by simpa using g1
    have e:py (some d) (some c) t=21:=if_pos g1;rw[e] at h0;have:=h0 zA zA (by decide);apply ws;intros;exact T.dp this
   have g1: ¬d.aF≠c.aF:=by simpa using g1
   apply ws;intros;refine bB (λg2=>?_) (λg2=>?_)
   ·have g2:d.aF≠t.aF:=by simpa using g2
    have e:py (some d) (some c) t=22:=by unfold py;dsimp only;rw[if_neg g1,if_pos g2]
    rw[e] at h0;have:=h0 zA zA (by decide);apply ws;intros;exact T.dp this
   have g2: ¬d.aF≠t.aF:=by simpa using g2
   apply ws;intros;rw[Q8 fd.1 fd.2];refine dO (λg3=>?_) (λg3=>?_)
   ·have e:py (some d) (some c) t=30:=by unfold py;dsimp only;rw[if_neg g1,if_neg g2,if_pos (g3)]
    rw[e] at h0;have:=h0 zA zA (by decide);apply ws;intros;exact T.dp this
   apply ws;intros;rw[Q8 fc.1 fc.2];refine dO (λg4=>?_) (λg4=>?_)
   ·have e:py (some d) (some c) t=31:=by unfold py;dsimp only;rw[if_neg g1,if_neg g2,if_neg g3,if_pos (g4)]
    rw[e] at h0;have:=h0 zA zA (by decide);apply ws;intros;exact T.dp this
   have:=h d c rfl rfl (by unfold py;dsimp only;rw[if_neg g1,if_neg g2,if_neg g3,if_neg g4]);apply ws;intros;exact T.dp this
def X6{f:Int}(h0:0<=f)(h1:f<256):(bA .i64 .and f 16!=0)=decide (has f 16):=by
 rw[aed];simp only[bne_iff_ne,ne_eq,decide_eq_true_eq];rw[Vr h0 h1,ad4]
def X5{f:Int}(h0:0<=f)(h1:f<256):(bA .i64 .and f 32!=0)=decide (has f 32):=by
 rw[aed];simp only[bne_iff_ne,ne_eq,decide_eq_true_eq];rw[Vq h0 h1,ad4]
def SS{f:Int}(h0:0<=f)(h1:f<256):(bA .i64 .and f 64!=0)=decide (has f 64):=by
 rw[aed];simp only[bne_iff_ne,ne_eq,decide_eq_true_eq];rw[OI h0 h1,ad4]
def N5{f:Int}(h0:0<=f)(h1:f<256):(bA .i64 .and f 128!=0)=decide (has f 128):=by
 rw[aed];simp only[bne_iff_ne,ne_eq,decide_eq_true_eq];rw[J6 h0 h1,ad4]
def aaZ{f:Int}(h0:0<=f)(h1:f<256):(bA .i64 .and f 4!=0)=decide (has f 4):=by
 rw[aed];simp only[bne_iff_ne,ne_eq,decide_eq_true_eq];rw[GU h0 h1,ad4]
def KY(G:px W)(hd:uu d)(hc:uu c)(ht:t.aB<aK)(hf:0<=t.flags/\t.flags<256)(hz:t.aB=0->has t.flags 16\/has t.flags 32)
 (h:T W L (K (.tuple ⟨[.agg ⟨nm (bF t d c).1⟩,.i (bF t d c).2]⟩))):T W L (dm (fU d c) (ai t) K):=by
 unfold dm;have j3:∀(r1 r2 r3 r4 n1:Nat),n1<aK->((if has t.flags 32/\(if has t.flags 32 then min n1 (fY c false) else n1)=0 then((0:Nat),(34:Int)) else(if has t.flags 32 then min n1 (fY c false) else n1,0))=bF t d c)->
  T W (Sep.pt r4 (nm n1)::Sep.pt r3 (nm 0)::Sep.pt r2 (ai t)::Sep.pt r1 (fU d c)::L) (dm.j3 K r2 r4 r1 r3):=by
  intro r1 r2 r3 r4 n1 hn1 he;unfold dm.j3;apply ws;intros;rw[X5 hf.1 hf.2];refine dO (λg1=>?_) (λg1=>?_)
  ·rw[if_pos g1] at he
   repeat' first|apply ws;intros|apply wb|with_reducible first|refine EP G hc ?_|refine Tc ?_|refine qz ?_|fail
   refine dO (λg2=>?_) (λg2=>?_)
   ·rw[if_pos ⟨g1,g2⟩] at he;rw[<-he] at h;rw[g2];apply ws;intros;exact T.dp h
   ·rw[if_neg (λhh=>g2 hh.2)] at he;rw[<-he] at h;apply ws;intros;exact T.dp h
  ·rw[if_neg (λhh=>g1 hh.1),if_neg g1] at he;rw[<-he] at h;apply ws;intros;exact T.dp h
 have j2:∀(r1 r2 r3 r4:Nat),T W (Sep.pt r4 (nm (if t.aB=0 then aK-1 else t.aB))::Sep.pt r3 (nm 0)::Sep.pt r2 (ai t)::Sep.pt r1 (fU d c)::L) (dm.j2 K r2 r4 r1 r3):=by
  intro r1 r2 r3 r4;have hn0:(if t.aB=0 then aK-1 else t.aB)<aK:=by unfold aK at *;split<;>omega
  unfold dm.j2;apply ws;intros;rw[X6 hf.1 hf.2];refine dO (λg1=>?_) (λg1=>?_)
  ·repeat' first|apply ws;intros|apply wb|with_reducible first|refine EP G hd ?_|refine Tc ?_|refine qz ?_|fail
   refine dO (λg2=>?_) (λg2=>?_)
   ·have he:bF t d c=(0,33):=by unfold bF;simp only[g1,g2,if_true,true_and]
    rw[he] at h;rw[g2];apply ws;intros;exact T.dp h
   ·refine j3 _ _ _ _ _ (by have:=Bn (p:=true) hd;omega) ?_;unfold bF;simp only[g1,g2,if_true,true_and,if_false]
  ·refine j3 _ _ _ _ _ hn0 ?_;unfold bF;simp only[g1,if_false,false_and]
 have adK:(has t.flags 16\/has t.flags 32)->t.aB=0->(if t.aB=0 then aK-1 else t.aB)=aK-1:=λ_ h=>if_pos h
 repeat' first|apply ws;intros|apply wb|with_reducible refine BZ hf ?_|fail
 rename_i r1 r2 r3 r4;refine dO (λg1=>?_) (λg1=>?_)
 ·repeat' first|apply ws;intros|apply wb|with_reducible refine qz ?_|fail
  unfold dm.j1;refine dO (λg2=>?_) (λg2=>?_)
  ·refine I5 ⟨tV _,G.QF⟩ ?_;apply ws;intros;have:=j2 r1 r2 r3 r4;rw[if_pos g2] at this;exact this
  ·have:=j2 r1 r2 r3 r4;rw[if_neg g2] at this;exact this
 ·unfold dm.j1;refine qf ?_;have:=j2 r1 r2 r3 r4;rw[if_neg (λhh=>g1 (hz hh))] at this;exact this
end
structure ada(t:Move):Prop where
 flags:0<=t.flags/\t.flags<=255
 id0:t.id≠0
 idM:t.id≠aK-1
 tog:fw t.flags
 fresh:t.ae=0/\t.born=0
 timeout:0<=t.timeout/\t.timeout<=1073741824
 waits:0<t.timeout->has t.flags 2
 ends:gr t.flags->t.pending≠0/\(0<=t.aF/\t.aF<4294967296)/\(0<=t.code/\t.code<65536)
 aQ: ¬gr t.flags->t.aE≠t.ar/\t.pending=0/\(t.aB=0->has t.flags 16\/has t.flags 32)/\(1<=t.aF/\t.aF<4294967296)/\(1<=t.code/\t.code<65536)
def yl{t:Move}(h:kC t=0):ada t:=by
 unfold kC at h;by_cases h1:t.flags<0\/255<t.flags
 ·rw[if_pos h1] at h;exact absurd h (by decide)
 rw[if_neg h1] at h;by_cases h2:t.id=0
 ·rw[if_pos h2] at h;exact absurd h (by decide)
 rw[if_neg h2] at h;by_cases h3:t.id=aK-1
 ·rw[if_pos h3] at h;exact absurd h (by decide)
 rw[if_neg h3] at h;by_cases h4: ¬fw t.flags
 ·rw[if_pos h4] at h;exact absurd h (by decide)
 rw[if_neg h4] at h;by_cases h5:t.ae≠0\/t.born≠0
 ·rw[if_pos h5] at h;exact absurd h (by decide)
 rw[if_neg h5] at h;by_cases h6:t.timeout<0\/1073741824<t.timeout\/0<t.timeout/\ ¬has t.flags 2
 ·rw[if_pos h6] at h;exact absurd h (by decide)
 rw[if_neg h6] at h;have hw:0<t.timeout->has t.flags 2:=λh0=>ad4.1 λhh=>h6 (.inr (.inr ⟨h0,hh⟩));by_cases he:gr t.flags
 ·rw[if_pos he] at h;by_cases g1:t.pending=0
  ·rw[if_pos g1] at h;exact absurd h (by decide)
  rw[if_neg g1] at h;by_cases g2:t.aF<0\/4294967296<=t.aF
  ·rw[if_pos g2] at h;exact absurd h (by decide)
  rw[if_neg g2] at h;by_cases g3:t.code<0\/65536<=t.code
  ·rw[if_pos g3] at h;exact absurd h (by decide)
  exact⟨by omega,h2,h3,ad4.1 h4,by omega,by omega,hw,λ_=>⟨g1,by omega,by omega⟩,λhh=>absurd he hh⟩
 ·rw[if_neg he] at h;by_cases g1:t.aE=0
  ·rw[if_pos g1] at h;exact absurd h (by decide)
  rw[if_neg g1] at h;by_cases g2:t.ar=0
  ·rw[if_pos g2] at h;exact absurd h (by decide)
  rw[if_neg g2] at h;by_cases g3:t.aE=t.ar
  ·rw[if_pos g3] at h;exact absurd h (by decide)
  rw[if_neg g3] at h;by_cases g4:t.pending≠0
  ·rw[if_pos g4] at h;exact absurd h (by decide)
  rw[if_neg g4] at h;by_cases g5:t.aB=0/\ ¬has t.flags 16/\ ¬has t.flags 32
  ·rw[if_pos g5] at h;exact absurd h (by decide)
  rw[if_neg g5] at h;by_cases g6:t.aF<1\/4294967296<=t.aF
  ·rw[if_pos g6] at h;exact absurd h (by decide)
  rw[if_neg g6] at h;by_cases g7:t.code<1\/65536<=t.code
  ·rw[if_pos g7] at h;exact absurd h (by decide)
  refine⟨by omega,h2,h3,ad4.1 h4,by omega,by omega,hw,λhh=>absurd hh he,λ_=>⟨g3,by omega,λh0=>?_,by omega,by omega⟩⟩;by_cases q:has t.flags 16
  ·exact .inl q
  ·by_cases q2:has t.flags 32
   ·exact .inr q2
   ·exact absurd ⟨h0,q,q2⟩ g5
section
variable {b:ax} {t:Move} {d c:aP} {n:Nat} {q:Bool}
def rV(hg:Good b){id:Nat}(hd:b.find id=some d):AG d/\d.id=id:=⟨hg.Mo d (aeO hd),by simpa using List.find?_some hd⟩
def Jx{s:Bool}(hd:AG d)(hm:(more d s n q).2=0):AG (more d s n q).1/\(more d s n q).1.id=d.id/\(more d s n q).1.ae=d.ae:=by
 obtain⟨⟨i1,i2,i3,i4,i5,i6,i7,i8,i9⟩,i10,i11,i12⟩:=hd;unfold more at hm⊢;cases s with
 |false=>
  simp only[aef,if_false] at hm⊢;by_cases h1:aK<=d.cp+d.cq+n
  ·rw[if_pos h1] at hm;exact absurd hm (by show ¬(32:Int)=0;decide)
  by_cases h2:has d.flags 4/\fY d false<n
  ·rw[if_neg h1,if_pos h2] at hm;exact absurd hm (by show ¬(34:Int)=0;decide)
  rw[if_neg h1,if_neg h2];cases q with
  |true=>exact⟨⟨⟨i1,i2,i3,by show d.cp+n<aK;omega,i5,i6,i7,i8,i9⟩,i10,i11,i12⟩,rfl,rfl⟩
  |false=>exact⟨⟨⟨i1,i2,i3,i4,by show d.cq+n<aK;omega,i6,i7,i8,i9⟩,i10,i11,i12⟩,rfl,rfl⟩
 |true=>
  simp only[if_true] at hm⊢;by_cases h1:aK<=d.dp+d.dq+n
  ·rw[if_pos h1] at hm;exact absurd hm (by show ¬(32:Int)=0;decide)
  by_cases h2:has d.flags 2/\fY d true<n
  ·rw[if_neg h1,if_pos h2] at hm;exact absurd hm (by show ¬(33:Int)=0;decide)
  rw[if_neg h1,if_neg h2];cases q with
  |true=>exact⟨⟨⟨i1,by show d.dp+n<aK;omega,i3,i4,i5,i6,i7,i8,i9⟩,i10,i11,i12⟩,rfl,rfl⟩
  |false=>exact⟨⟨⟨i1,i2,by show d.dq+n<aK;omega,i4,i5,i6,i7,i8,i9⟩,i10,i11,i12⟩,rfl,rfl⟩
def GI(hd:AG d){yes:Prop}[Decidable yes]:AG (close d yes)/\(close d yes).id=d.id/\(close d yes).ae=d.ae:=by
 obtain⟨⟨i1,i2,i3,i4,i5,i6,i7,i8,i9⟩,i10,i11,i12⟩:=hd;unfold close;split
 ·have hf:0<=d.flags%8+8/\d.flags%8+8<16:=by omega
  exact⟨⟨⟨i1,i2,i3,i4,i5,i6,i7,by show re (d.flags%8+8);unfold re;omega,i9⟩,⟨i10.1,i10.2.1,by show 0<=d.flags%8+8/\d.flags%8+8<=65535;omega⟩,hf,i12⟩,rfl,rfl⟩
 ·exact⟨⟨⟨i1,i2,i3,i4,i5,i6,i7,i8,i9⟩,i10,i11,i12⟩,rfl,rfl⟩
def CB{a x:aP}{id:Nat}(hx:b.find id=some x)(gS:a.id≠id):(b.aH a).find id=some x:=by
 unfold ax.find at *;show(b.ag.map λx=>if x.id=a.id then{a with ae:=x.ae} else x).find? _=_;rw[List.find?_map];have:((λy:aP=>decide (y.id=id))∘λx=>if x.id=a.id then{a with ae:=x.ae} else x)=λy:aP=>decide (y.id=id):=by
  funext y
  simp only[Function.comp];by_cases e:y.id=a.id<;>simp[e]
 rw[this,hx];have hxi:x.id=id:=by simpa using List.find?_some hx
 simp only[aeB];rw[if_neg (by rw[hxi];exact λh=>gS h.symm)]
def q9(hg:Good b){id:Nat}{k:Kept}(hk:b.named id=some k):KG k/\k.move.id=id:=⟨hg.L5 k (aeO hk),by simpa using List.find?_some hk⟩
end
section
variable {W:World} {L R:LH} {K:VK} {X:WK} {p:Nat} {b:ax} {hs:List C} {f:ax×List C->LH} {t:Move} {d c:aP} {n:Nat}
def KX(h1:kC t=0)(h2: ¬gr t.flags)(h3:b.named t.id=none)(h4:b.find t.aE=some d)(h5:b.find t.ar=some c)(h6:py (some d) (some c) t=0):
 gL t (b.named t.id) (b.find t.aE) (b.find t.ar) b.kept.length=(if 96<=b.kept.length then(35,0)
  else if(bF t d c).2≠0 then((bF t d c).2,0)
  else if(more d true (bF t d c).1 (decide (has t.flags 2))).2≠0 then((more d true (bF t d c).1 (decide (has t.flags 2))).2,0)
  else if(more c false (bF t d c).1 (decide (has t.flags 2))).2≠0 then((more c false (bF t d c).1 (decide (has t.flags 2))).2,0)
  else(0,(bF t d c).1)):=by
 unfold py at h6;dsimp only at h6;unfold gL;rw[if_neg (by simpa using h1),if_neg h2,h3,h4,h5];dsimp only;by_cases g1:d.aF≠c.aF
 ·rw[if_pos g1] at h6;cases h6
 by_cases g2:d.aF≠t.aF
 ·rw[if_neg g1,if_pos g2] at h6;cases h6
 by_cases g3:8<=d.flags
 ·rw[if_neg g1,if_neg g2,if_pos g3] at h6;cases h6
 by_cases g4:8<=c.flags
 ·rw[if_neg g1,if_neg g2,if_neg g3,if_pos g4] at h6;cases h6
 rw[if_neg g1,if_neg g2,if_neg g3,if_neg g4]
def Sw(G:px W)(ht:tB t)(NM:jZ t)(hl:hs.length<800000)[i:Lc (bj p) L (b,hs) f]
 (h:∀cT,Ext (cY b) hs (cY (b.move t).2) cT 6->T W (f ((b.move t).2,cT)) (K (.i (b.move t).1))):T W L (lV (some ⟨p,0,none⟩) (ai t) K):=by
 have hL:f (b,hs)=L:=i.same;refine mX (p:=p) λhg=>?_;have bad:∀r:Int,r≠0->(gL t (b.named t.id) (b.find t.aE) (b.find t.ar) b.kept.length).1=r->T W L (K (.i r)):=by
  intro r hr he;have e:b.move t=(r,b):=by unfold ax.move;dsimp only;rw[he,if_pos hr]
  rw[e] at h;have:=h hs (Ext.refl _ _ _);rw[hL] at this;exact this
 unfold lV
 repeat' first|apply ws;intros|apply wb|with_reducible refine Fh G ht ?_|fail
 refine bB (λg1=>?_) (λg1=>?_)
 ·have g1:kC t≠0:=by simpa using g1
  have:=bad (kC t) g1 (by unfold gL;rw[if_pos g1]);exact T.dp this
 have g1:kC t=0:=by simpa using g1
 have ck:=yl g1;have hf:0<=t.flags/\t.flags<256:=by have:=ck.flags;omega
 repeat' first|apply ws;intros|apply wb|with_reducible refine ES hf ?_|fail
 refine dO (λg2=>?_) (λg2=>?_)
 ·have:=bad 6 (by decide) (by unfold gL;rw[if_neg (by simpa using g1),if_pos g2]);exact T.dp this
 repeat' first|apply ws;intros|apply wb|with_reducible refine EL ?_|fail
 cases hn:b.named t.id with
 |some k=>
  obtain⟨hk,_⟩:=q9 hg hn;simp only[aep,aes]
  repeat' first|apply ws;intros|apply wb|with_reducible refine Fi hf hk.qx ?_|fail
  have:=bad (qy t k.asked) (oF _ _) (by unfold gL;rw[if_neg (by simpa using g1),if_neg g2,hn]);exact T.dp this
 |none=>
 simp only[aew,aeI];have key:∀(d c:Option aP),b.find t.aE=d->b.find t.ar=c->py d c t≠0->(gL t (b.named t.id) (b.find t.aE) (b.find t.ar) b.kept.length).1=py d c t:=by
  intro d c hd hc gS;rw[hd,hc,hn];unfold gL;rw[if_neg (by simpa using g1),if_neg g2];dsimp only;cases d with
  |none=>rfl
  |some d=>
   cases c with
   |none=>rfl
   |some c=>
    unfold py at gS⊢;dsimp only at gS⊢;by_cases g1:d.aF≠c.aF
    ·rw[if_pos g1,if_pos g1]
    by_cases g2:d.aF≠t.aF
    ·rw[if_neg g1,if_pos g2,if_neg g1,if_pos g2]
    by_cases g3:8<=d.flags
    ·rw[if_neg g1,if_neg g2,if_pos g3,if_neg g1,if_neg g2,if_pos g3]
    by_cases g4:8<=c.flags
    ·rw[if_neg g1,if_neg g2,if_neg g3,if_pos g4,if_neg g1,if_neg g2,if_neg g3,if_pos g4]
    rw[if_neg g1,if_neg g2,if_neg g3,if_neg g4] at gS;exact absurd rfl gS
 apply ws;intros;refine QJ (λd c gS=>?_) (λd c hd hc he=>?_)
 ·apply ws;intros;refine ki (by simpa using gS) ?_;have:=bad _ gS (key _ _ rfl rfl gS);exact T.dp this
 apply ws;intros;obtain⟨gd,EW⟩:=rV hg hd;obtain⟨gc,Ej⟩:=rV hg hc;rw[hd,hc] at he;have JU:=KX (b:=b) g1 g2 hn hd hc he;refine dX (by simp) ?_
 repeat' first|apply ws;intros|apply wb|with_reducible refine OY ?_|fail
 by_cases g3:96<=b.kept.length
 ·rw[decide_eq_false (by omega)];apply ws;intros;have:=bad 35 (by decide) (by rw[JU,if_pos g3]);exact T.dp this
 rw[decide_eq_true (by omega)];rw[if_neg g3] at JU;obtain⟨gS,ade,Ra,adA,SO⟩:=ck.aQ g2
 repeat' first|apply ws;intros|apply wb|with_reducible refine KY G gd.ok gc.ok ht.aB hf Ra ?_|fail
 refine bB (λg4=>?_) (λg4=>?_)
 ·have g4:(bF t d c).2≠0:=by simpa using g4
  have:=bad _ g4 (by rw[JU,if_pos g4]);exact T.dp this
 have g4: ¬(bF t d c).2≠0:=by simpa using g4
 rw[if_neg g4] at JU;have Dd:(bF t d c).1<aK:=by
  have h1:=Bn (p:=true) gd.ok;have h2:=Bn (p:=false) gc.ok;have h3:=ht.aB;unfold bF aK at *;dsimp only
  repeat' split
  all_goals first|(show(0:Nat)<_;omega)|(show min _ _<_;omega)|(show _<_;split<;>omega)|omega
 generalize hN:(bF t d c).1=N at *
 repeat' first|apply ws;intros|apply wb|with_reducible first|refine qb hf ?_|refine R5 G gd.ok Dd ⟨gd.flags.1,by have:=gd.flags.2;omega⟩ ?_|fail
 refine bB (λg5=>?_) (λg5=>?_)
 ·have g5:(more d true N (decide (has t.flags 2))).2≠0:=by simpa using g5
  have:=bad _ g5 (by rw[JU,if_pos g5]);exact T.dp this
 have g5: ¬(more d true N (decide (has t.flags 2))).2≠0:=by simpa using g5
 rw[if_neg g5] at JU
 repeat' first|apply ws;intros|apply wb|with_reducible first|refine qb hf ?_|refine Pf G gc.ok Dd ⟨gc.flags.1,by have:=gc.flags.2;omega⟩ ?_|fail
 refine bB (λg6=>?_) (λg6=>?_)
 ·have g6:(more c false N (decide (has t.flags 2))).2≠0:=by simpa using g6
  have:=bad _ g6 (by rw[JU,if_pos g6]);exact T.dp this
 have g6: ¬(more c false N (decide (has t.flags 2))).2≠0:=by simpa using g6
 rw[if_neg g6] at JU;obtain⟨md,mdi,mds⟩:=Jx (q:=decide (has t.flags 2)) gd (ad4.1 g5);obtain⟨mc,mci,mcs⟩:=Jx (q:=decide (has t.flags 2)) gc (ad4.1 g6);have e:b.move t=(0,b.yL t N):=by unfold ax.move;dsimp only;rw[JU];rfl
 rw[e] at h;have em:b.yL t N=((b.aH (close (more d true N (decide (has t.flags 2))).1 (has t.flags 64))).aH (close (more c false N (decide (has t.flags 2))).1 (has t.flags 128))).jT t {t with aB:=N} (waits t):=by unfold ax.yL;rw[hd,hc]
 rw[em] at h;have last:∀(D C:aP)(r1 r2 r3 r4:Nat),AG D->AG C->D.id=d.id->C.id=c.id->D.ae=d.ae->C.ae=c.ae->
    (∀cT,Ext (cY b) hs (cY (((b.aH D).aH C).jT t {t with aB:=N} (waits t))) cT 6->T W (f (((b.aH D).aH C).jT t {t with aB:=N} (waits t),cT)) (K (.i 0)))->
    T W (Sep.pt r4 (nm N)::Sep.pt r3 (fU D C)::Sep.pt r2 (aI zK)::Sep.pt r1 (ai t)::L) (lV.j2 K r3 (some ⟨p,0,none⟩) r1 r4):=by
  intro D C r1 r2 r3 r4 gD gC Yc hCi hDs hCs hh;have SK:b.find D.id=some d:=by rw[Yc,EW];exact hd
  have eD:({D with ae:=d.ae}:aP)=D:=by rw[<-hDs]
  have eC:({C with ae:=c.ae}:aP)=C:=by rw[<-hCs]
  have SM:(b.aH D).find C.id=some c:=CB (by rw[hCi,Ej];exact hc) (by rw[Yc,hCi,EW,Ej];exact gS);have rG:=hg.ae;have lh:=hg.lh;have many:=hg.many;unfold lV.j2;apply ws;intros;refine EF (p:=p) SK (by rw[eD];exact gD) (by omega) λuV x1=>?_;have l1:=x1.len;have i1:=i.next (b.aH D,uV);apply ws;intros;refine EF (p:=p) SM (by rw[eC];exact gC) (by omega) λfj x2=>?_;have l2:=x2.len;have i2:=i.next ((b.aH D).aH C,fj)
  repeat' first|apply ws;intros|apply wb|with_reducible refine qb hf ?_|fail
  have XJ:KG (o7 ((b.aH D).aH C) t {t with aB:=N} (waits t)):=by
   have cl:=hg.clock;refine⟨ht,⟨ht.id,ht.aE,ht.ar,Dd,ht.pending,ht.timeout,ht.aF,ht.code,ht.flags,?_,?_⟩,NM,NM,hf,hf,?_,ck.timeout,cl⟩
   ·show re (b.ae+1);unfold re;omega
   ·show re b.clock;unfold re;omega
   ·show 0<=waits t/\waits t<=4;unfold Md.waits;split<;>decide
  have Hf:((b.aH D).aH C).named ({t with aB:=N}:Move).id=none:=hn;refine Jh (p:=p) (waits:=decide (has t.flags 2)) Hf (show b.kept.length<96 by omega) XJ (by unfold Md.waits;by_cases q:has t.flags 2<;>simp[q]) (by omega) λqF x3=>?_;apply ws;intros;have:=hh qF (((x1.trans x2).trans x3).mono (by omega));exact T.dp this
 obtain⟨cd,cdi,cds⟩:=GI (yes:=has t.flags 64) md;obtain⟨cc,cci,ccs⟩:=GI (yes:=has t.flags 128) mc;have Sx:∀(D:aP)(r1 r2 r3 r4:Nat),D=close (more d true N (decide (has t.flags 2))).1 (has t.flags 64)->T W (Sep.pt r4 (nm N)::Sep.pt r3 (fU D (more c false N (decide (has t.flags 2))).1)::Sep.pt r2 (aI zK)::Sep.pt r1 (ai t)::L) (lV.j1 K r1 r3 (some ⟨p,0,none⟩) r4):=by
  intro D r1 r2 r3 r4 hD;unfold lV.j1;apply ws;intros;rw[N5 hf.1 hf.2];have fin:=last D (close (more c false N (decide (has t.flags 2))).1 (has t.flags 128)) r1 r2 r3 r4 (by rw[hD];exact cd) cc (by rw[hD,cdi,mdi]) (by rw[cci,mci]) (by rw[hD,cds,mds]) (by rw[ccs,mcs]) (by rw[hD];exact h);refine dO (λq=>?_) (λq=>?_)
  ·apply ws;intros;rw[Ze mc.flags.1 mc.flags.2];unfold close at fin;rw[if_pos q] at fin;exact fin
  ·unfold close at fin;rw[if_neg q] at fin;exact fin
 apply ws;intros;rw[SS hf.1 hf.2];refine dO (λq=>?_) (λq=>?_)
 ·apply ws;intros;rw[Ze md.flags.1 md.flags.2];exact Sx _ _ _ _ _ (by unfold close;rw[if_pos q])
 ·exact Sx _ _ _ _ _ (by unfold close;rw[if_neg q])
end
section
variable {m t:Move} {x1 x2 x3 x4 x5 x6 x7 x8 x9 zC zB zz zy Cy Ha G':Value} {n:Nat} {i:Int}
instance:Wr (ai m) 2 (nm n) (ai {m with aE:=n}):=⟨rfl,by show 4<=16;decide,kA n⟩
instance:Wr (ai m) 4 (nm n) (ai {m with ar:=n}):=⟨rfl,by show 6<=16;decide,kA n⟩
end
section
variable {W:World} {L R:LH} {K:VK} {X:WK} {p:Nat} {b:ax} {hs:List C} {f:ax×List C->LH} {t q:Move} {d c:aP} {n:Nat} {fate:Int} {k:Kept}
def QD(h:T W L (K (.bool (decide (¬cZ t q))))):T W L (dz (ai t) (ai q) K):=by
 unfold dz;have j3:∀(r1 r2:Nat)(x:Bool),((x=true/\(t.code=0\/t.code=q.code))↔ ¬cZ t q)->T W (Sep.pt r2 (ai q)::Sep.pt r1 (ai t)::L) (dz.j3 K r1 r2 x):=by
  intro r1 r2 x hx;unfold dz.j3;refine bB (λg=>?_) (λg=>?_)
  ·repeat' first|apply ws;intros|apply wb|with_reducible refine bB (λh1=>?_) (λh1=>?_)|fail
   ·have h1:t.code=0:=by simpa using h1
    rw[decide_eq_true (hx.1 ⟨g,.inl h1⟩)] at h;exact T.dp h
   ·have h1: ¬t.code=0:=by simpa using h1
    refine T.fin (T.dp h) ?_
    congr 1
    rw[aed];simp only[beq_iff_eq,decide_eq_true_eq];rw[<-hx]
    constructor
    ·exact λe=>⟨g,.inr e⟩
    ·rintro⟨_,e|e⟩
     ·exact absurd e h1
     ·exact e
  ·rw[decide_eq_false (λhh=>by rw[(hx.2 hh).1] at g;cases g)] at h;exact T.dp h
 have j2:∀(r1 r2:Nat)(x:Bool),((x=true/\(t.aF=0\/t.aF=q.aF)/\(t.code=0\/t.code=q.code))↔ ¬cZ t q)->T W (Sep.pt r2 (ai q)::Sep.pt r1 (ai t)::L) (dz.j2 K r1 r2 x):=by
  intro r1 r2 x hx;unfold dz.j2;refine bB (λg=>?_) (λg=>?_)
  ·repeat' first|apply ws;intros|apply wb|with_reducible refine bB (λh1=>?_) (λh1=>?_)|fail
   ·have h1:t.aF=0:=by simpa using h1
    exact j3 _ _ _ (by rw[<-hx];simp[g,h1])
   ·have h1: ¬t.aF=0:=by simpa using h1
    exact j3 _ _ _ (by rw[<-hx];simp[g,h1])
  ·exact j3 _ _ _ (by rw[<-hx];simp[g])
 have j1:∀(r1 r2:Nat)(x:Bool),((x=true/\(t.ar=0\/t.ar=q.ar)/\(t.aF=0\/t.aF=q.aF)/\(t.code=0\/t.code=q.code))↔ ¬cZ t q)->T W (Sep.pt r2 (ai q)::Sep.pt r1 (ai t)::L) (dz.j1 K r1 r2 x):=by
  intro r1 r2 x hx;unfold dz.j1;refine bB (λg=>?_) (λg=>?_)
  ·repeat' first|apply ws;intros|apply wb|with_reducible first|refine qz ?_|refine bB (λh1=>?_) (λh1=>?_)|fail
   ·have h1:=of_decide_eq_true h1;exact j2 _ _ _ (by rw[<-hx];simp[g,h1])
   ·have h1:=of_decide_eq_false h1;exact j2 _ _ _ (by rw[<-hx];simp[g,h1])
  ·exact j2 _ _ _ (by rw[<-hx];simp[g])
 have Eg:((t.aE=0\/t.aE=q.aE)/\(t.ar=0\/t.ar=q.ar)/\(t.aF=0\/t.aF=q.aF)/\(t.code=0\/t.code=q.code))↔ ¬cZ t q:=by unfold cZ;omega
 repeat' first|apply ws;intros|apply wb|with_reducible first|refine qz ?_|refine bB (λh1=>?_) (λh1=>?_)|fail
 ·have h1:=of_decide_eq_true h1;exact j1 _ _ _ (by rw[<-Eg];simp[h1])
 ·have h1:=of_decide_eq_false h1;exact j1 _ _ _ (by rw[<-Eg];simp[h1])
def kf(KN:Option Kept)(t:Move):Int:=match KN with
 |none=>23
 |some k=>if ¬has k.move.flags 2 then 24 else if cZ t k.move then 25 else if 1<k.fate then 25+k.fate else 0
def Q5(G:px W)[i:Lc (bj p) L (b,hs) f](h0:∀m,kf (b.named t.pending) t≠0->T W L (K (.tuple ⟨[.agg ⟨ai m⟩,.i (kf (b.named t.pending) t)]⟩)))
 (h:∀k,b.named t.pending=some k->kf (b.named t.pending) t=0->T W L (K (.tuple ⟨[.agg ⟨ai k.move⟩,.i 0]⟩))):T W L (uJ (some ⟨p,0,none⟩) (ai t) K):=by
 refine mX (p:=p) λhg=>?_;unfold uJ
 repeat' first|apply ws;intros|apply wb|with_reducible refine EL ?_|fail
 cases hn:b.named t.pending with
 |none=>
  rw[hn] at h0;simp only[aew,aeI];have:=h0 zT (by show(23:Int)≠0;decide);apply ws;intros;exact T.dp this
 |some k=>
  rw[hn] at h0 h;obtain⟨kg,_⟩:=q9 hg hn;simp only[aep,aes]
  repeat' first|apply ws;intros|apply wb|with_reducible refine qb kg.rN ?_|fail
  by_cases g1:has k.move.flags 2
  ·rw[decide_eq_true g1]
   repeat' first|apply ws;intros|apply wb|with_reducible refine QD ?_|fail
   by_cases g2:cZ t k.move
   ·have e:kf (some k) t=25:=by unfold kf;dsimp only;rw[if_neg (λh=>h g1),if_pos g2]
    rw[e] at h0;have:=h0 zT (by decide);rw[decide_eq_false (λh=>h g2)];apply ws;intros;exact T.dp this
   ·rw[decide_eq_true g2];obtain⟨f1,f2⟩:=kg.fate;have e:kf (some k) t=if 1<k.fate then 25+k.fate else 0:=by unfold kf;dsimp only;rw[if_neg (λh=>h g1),if_neg g2]
    obtain⟨fn,ZP⟩:∃fn:Nat,k.fate=fn:=⟨k.fate.toNat,by omega⟩;have Mh:fn<5:=by omega
    have Pp:([.i 0,.i 0,.i 27,.i 28,.i 29]:LV)[fn]?=some (.i (if 1<k.fate then 25+k.fate else 0)):=by
     rw[ZP]
     match fn,Mh with
     |0,_=>rfl
     |1,_=>rfl
     |2,_=>rfl
     |3,_=>rfl
     |4,_=>rfl
    apply ws;intros;refine cK ⟨f1,by omega⟩ ?_;have hnt:k.fate.toNat* 1=fn:=by omega
    rw[hnt];have yW:=G.told fn _ Pp;refine λw fj=>⟨_,by rw[fj.old (zZ yW)];exact yW,?_⟩;refine T.at ?_ fj;apply ws;intros;refine λw fj=>⟨λj v hj=>?_,?_⟩
    ·match j,hj with
     |0,hj=>
      simp at hj;subst hj;have Mk:=yW;rw[dW,adU] at Mk;rw[dW,aeL,fj.old (zZ Mk)];exact Mk
    refine T.at ?_ fj;apply ws;intros;rw[<-e];by_cases g3:kf (some k) t=0
    ·rw[g3];have:=h k rfl g3;exact T.dp this
    ·have:=h0 k.move g3;exact T.dp this
  ·have e:kf (some k) t=24:=by unfold kf;dsimp only;rw[if_pos g1]
   rw[e] at h0;have:=h0 zT (by decide);rw[decide_eq_false g1];apply ws;intros;exact T.dp this
def X4{f:Int}(h0:0<=f)(h1:f<256):(bA .i64 .and f 8!=0)=decide (has f 8):=by
 rw[aed];simp only[bne_iff_ne,ne_eq,decide_eq_true_eq];rw[OH h0 h1,ad4]
def Lk(hf:0<=t.flags/\t.flags<256)(UT:has t.flags 8↔ ¬has t.flags 4)(h0:iP t q->T W L (K (.tuple ⟨[.agg ⟨nm 0⟩,.i 26]⟩)))
 (h: ¬iP t q->T W L (K (.tuple ⟨[.agg ⟨nm (bK t q)⟩,.i 0]⟩))):T W L (kL (ai t) (ai q) K):=by
 unfold kL
 repeat' first|apply ws;intros|apply wb|with_reducible refine qz ?_|fail
 refine dO (λg1=>?_) (λg1=>?_)
 ·have e:bK t q=q.aB:=if_pos g1;have hb: ¬iP t q:=by unfold iP;rw[e];omega
  have:=h hb;rw[e] at this;apply ws;intros;exact T.dp this
 have e:bK t q=t.aB:=if_neg g1;unfold kL.j1;apply ws;intros;rw[X4 hf.1 hf.2];refine dO (λg2=>?_) (λg2=>?_)
 ·apply ws;intros;by_cases g3:t.aB=q.aB
  ·have hb: ¬iP t q:=by
    unfold iP;rw[e];have:=UT.1 g2;rintro(⟨h4,_⟩|⟨_,h4⟩)
    ·exact this h4
    ·exact h4 g3
   have:=h hb;rw[e] at this;rw[decide_eq_true g3]
   repeat' first|apply ws;intros|apply wb|with_reducible refine yu ?_|fail
   refine dX (by simp;omega) ?_;apply ws;intros;exact T.dp this
  ·have hb:iP t q:=.inr ⟨UT.1 g2,by rw[e];exact g3⟩;have:=h0 hb;rw[decide_eq_false g3];apply ws;intros;exact T.dp this
 ·have g4:has t.flags 4:=ad4.1 λhh=>g2 (UT.2 hh)
  repeat' first|apply ws;intros|apply wb|with_reducible refine yu ?_|fail
  refine dO (λg3=>?_) (λg3=>?_)
  ·have:=h0 (.inl ⟨g4,by rw[e];exact g3⟩);apply ws;intros;exact T.dp this
  ·have:=h (by
    rintro(⟨_,h4⟩|⟨h4,_⟩)
    ·rw[e] at h4;exact g3 h4
    ·exact h4 g4)
   rw[e] at this;apply ws;intros;exact T.dp this
def UO{f:Int}(h0:0<=f)(h1:f<256):(bA .i64 .and f 64==0)=decide (¬has f 64):=by
 rw[aed];simp only[beq_iff_eq,decide_eq_true_eq];rw[OI h0 h1]
def Q9{f:Int}(h0:0<=f)(h1:f<256):(bA .i64 .and f 128==0)=decide (¬has f 128):=by
 rw[aed];simp only[beq_iff_eq,decide_eq_true_eq];rw[J6 h0 h1]
def Lj[i:Lc (bj p) L (b,hs) f](hq:0<=q.flags/\q.flags<256)(hd:b.find q.aE=some d)(hc:b.find q.ar=some c)
 (h:T W L (K (.i (if 8<=d.flags/\ ¬has q.flags 64 then 30 else if 8<=c.flags/\ ¬has q.flags 128 then 31 else 0)))):T W L (jU (some ⟨p,0,none⟩) (ai q) K):=by
 refine mX (p:=p) λhg=>?_;have fd:=(hg.Mo d (aeO hd)).flags;have fc:=(hg.Mo c (aeO hc)).flags;unfold jU
 repeat' first|apply ws;intros|apply wb|with_reducible refine sh ?_|fail
 rw[hd,hc];simp only[aep,aes];rename_i r1 r2 r3;have j1:∀x:Bool,(x=true↔(8<=d.flags/\ ¬has q.flags 64))->T W (Sep.pt r3 (ao c)::Sep.pt r2 (ao d)::Sep.pt r1 (ai q)::L) (jU.j1 K r3 r1 x):=by
  intro x hx;unfold jU.j1;refine bB (λg=>?_) (λg=>?_)
  ·rw[if_pos (hx.1 g)] at h;exact T.dp h
  rw[if_neg (λhh=>by rw[hx.2 hh] at g;cases g)] at h;apply ws;intros;rw[Q8 fc.1 fc.2];refine dO (λg1=>?_) (λg1=>?_)
  ·apply ws;intros;rw[Q9 hq.1 hq.2];refine dO (λg2=>?_) (λg2=>?_)
   ·rw[if_pos ⟨g1,g2⟩] at h;exact T.dp h
   ·rw[if_neg (λhh=>g2 hh.2)] at h;exact T.dp h
  ·rw[if_neg (λhh=>g1 hh.1)] at h;exact T.dp h
 rw[Q8 fd.1 fd.2];refine dO (λg1=>?_) (λg1=>?_)
 ·apply ws;intros;rw[UO hq.1 hq.2];exact j1 _ (by simp[g1])
 ·exact j1 _ (by simp[g1])
end
section
variable {b:ax} {t q:Move} {d c:aP} {n:Nat} {fate:Int}
def Qh(hd:AG d)(hn:fate=2->d.dq+n<aK):AG (vx d q n fate):=by
 obtain⟨⟨i1,i2,i3,i4,i5,i6,i7,i8,i9⟩,i10,i11,i12⟩:=hd;have hf:0<=d.flags%8/\d.flags%8<16:=by omega
 unfold vx open_;split
 ·exact⟨⟨i1,by show d.dp-q.aB<aK;omega,by show d.dq+n<aK;exact hn (by assumption),i4,i5,i6,i7,i8,i9⟩,i10,i11,i12⟩
 ·split
  ·exact⟨⟨i1,by show d.dp-q.aB<aK;omega,i3,i4,i5,i6,i7,by show re (d.flags%8);unfold re;omega,i9⟩,⟨i10.1,i10.2.1,by show 0<=d.flags%8/\d.flags%8<=65535;omega⟩,hf,i12⟩
  ·exact⟨⟨i1,by show d.dp-q.aB<aK;omega,i3,i4,i5,i6,i7,i8,i9⟩,i10,i11,i12⟩
def Qi(hd:AG d)(hn:fate=2->d.cq+n<aK):AG (wv d q n fate):=by
 obtain⟨⟨i1,i2,i3,i4,i5,i6,i7,i8,i9⟩,i10,i11,i12⟩:=hd;have hf:0<=d.flags%8/\d.flags%8<16:=by omega
 unfold wv open_;split
 ·exact⟨⟨i1,i2,i3,by show d.cp-q.aB<aK;omega,by show d.cq+n<aK;exact hn (by assumption),i6,i7,i8,i9⟩,i10,i11,i12⟩
 ·split
  ·exact⟨⟨i1,i2,i3,by show d.cp-q.aB<aK;omega,i5,i6,i7,by show re (d.flags%8);unfold re;omega,i9⟩,⟨i10.1,i10.2.1,by show 0<=d.flags%8/\d.flags%8<=65535;omega⟩,hf,i12⟩
  ·exact⟨⟨i1,i2,i3,by show d.cp-q.aB<aK;omega,i5,i6,i7,i8,i9⟩,i10,i11,i12⟩
end
section
variable {W:World} {L R:LH} {K:VK} {X:WK} {p:Nat} {b:ax} {hs:List C} {f:ax×List C->LH} {t q:Move} {d c:aP} {n:Nat} {fate:Int} {k:Kept}
def CN[i:Lc (bj p) L (b,hs) f](hk:b.named q.id=some k)(Q2:k.fate=1)(hq:0<=q.flags/\q.flags<256)(Un:q.aB<aK)(Dd:n<aK)(hd:b.find q.aE=some d)(hc:b.find q.ar=some c)(gS:q.aE≠q.ar)(hf:fate=2\/fate=3\/fate=4)
 (Gb:fate=2->d.dq+n<aK)(qP:fate=2->c.cq+n<aK)(hl:hs.length<800000)
 (h:∀cT,Ext (cY b) hs (cY (b.release q n fate)) cT 4->T W (f (b.release q n fate,cT)) (K (.tuple ⟨[]⟩))):T W L (cb (some ⟨p,0,none⟩) (ai q) (nm n) fate K):=by
 refine mX (p:=p) λhg=>?_;obtain⟨gd,EW⟩:=rV hg hd;obtain⟨gc,Ej⟩:=rV hg hc;have er:b.release q n fate=((b.aH (vx d q n fate)).aH (wv c q n fate)).fate q.id fate:=by unfold ax.release;rw[hd,hc]
 rw[er] at h;have last:∀(D E:aP)(r1 r2 r3 r4:Nat),D=vx d q n fate->E=wv c q n fate->T W (Sep.pt r4 (ao E)::Sep.pt r3 (ao D)::Sep.pt r2 (nm n)::Sep.pt r1 (ai q)::L) (cb.j1 K r3 (some ⟨p,0,none⟩) r4 r1 fate):=by
  intro D E r1 r2 r3 r4 hD hE;have Yc:D.id=d.id:=by rw[hD];exact(DT _ _ _ _).1
  have hEi:E.id=c.id:=by rw[hE];exact(DU _ _ _ _).1
  have gD:AG {D with ae:=d.ae}:=by
   have:=Qh (q:=q) (n:=n) (fate:=fate) gd Gb;rw[<-hD] at this;have es:D.ae=d.ae:=by rw[hD];exact(DT _ _ _ _).2
   have e2:({D with ae:=d.ae}:aP)=D:=by rw[<-es]
   rw[e2];exact this
  have gE:AG {E with ae:=c.ae}:=by
   have:=Qi (q:=q) (n:=n) (fate:=fate) gc qP;rw[<-hE] at this;have es:E.ae=c.ae:=by rw[hE];exact(DU _ _ _ _).2
   have e2:({E with ae:=c.ae}:aP)=E:=by rw[<-es]
   rw[e2];exact this
  rw[<-hD,<-hE] at h;unfold cb.j1;apply ws;intros;refine EF (p:=p) (by rw[Yc,EW];exact hd) gD (by omega) λuV x1=>?_;have l1:=x1.len;have i1:=i.next (b.aH D,uV);apply ws;intros;refine EF (p:=p) (old:=c) (CB (by rw[hEi,Ej];exact hc) (by rw[Yc,hEi,EW,Ej];exact gS)) gE (by omega) λfj x2=>?_;have l2:=x2.len;have i2:=i.next ((b.aH D).aH E,fj);apply ws;intros;refine TN (p:=p) (k:=k) (show((b.aH D).aH E).named q.id=some k from hk) Q2 hf (by omega) λqF x3=>?_;apply ws;intros;have:=h qF (((x1.trans x2).trans x3).mono (by omega));exact T.dp this
 have WN:∀x y:Nat,(if x<y then 0 else x-y)=x-y:=λx y=>by split<;>omega
 unfold cb
 repeat' first|apply ws;intros|apply wb|with_reducible refine sh ?_|fail
 rw[hd,hc];simp only[aep,aes]
 repeat' first|apply ws;intros|apply wb|with_reducible first|refine OT gd.ok.dp Un ?_|refine OT gc.ok.cp Un ?_|fail
 rw[WN,WN];refine bB (λg1=>?_) (λg1=>?_)
 ·have g1:fate=2:=by simpa using g1
  repeat' first|apply ws;intros|apply wb|with_reducible first|refine zj gd.ok.dq Dd ?_|refine zj gc.ok.cq Dd ?_|fail
  rw[if_pos (Gb g1),if_pos (qP g1)];refine last _ _ _ _ _ _ ?_ ?_
  ·unfold vx;rw[if_pos g1]
  ·unfold wv;rw[if_pos g1]
 ·have g1: ¬fate=2:=by simpa using g1
  have j2:∀(D:aP)(r1 r2 r3 r4:Nat),D=vx d q n fate->T W (Sep.pt r4 (ao {c with cp:=c.cp-q.aB})::Sep.pt r3 (ao D)::Sep.pt r2 (nm n)::Sep.pt r1 (ai q)::L) (cb.j2 K r1 r4 r3 (some ⟨p,0,none⟩) fate):=by
   intro D r1 r2 r3 r4 hD;unfold cb.j2;apply ws;intros;rw[N5 hq.1 hq.2];refine dO (λg2=>?_) (λg2=>?_)
   ·apply ws;intros;rw[S4 gc.flags.1 gc.flags.2];refine last _ _ _ _ _ _ hD ?_;unfold wv open_;rw[if_neg g1,if_pos g2]
   ·refine last _ _ _ _ _ _ hD ?_;unfold wv open_;rw[if_neg g1,if_neg g2]
  apply ws;intros;rw[SS hq.1 hq.2];refine dO (λg2=>?_) (λg2=>?_)
  ·apply ws;intros;rw[S4 gd.flags.1 gd.flags.2];refine j2 _ _ _ _ _ ?_;unfold vx open_;rw[if_neg g1,if_pos g2]
  ·refine j2 _ _ _ _ _ ?_;unfold vx open_;rw[if_neg g1,if_neg g2]
structure G2(b:ax)(k:Kept):Prop where
 aE:∃d,b.find k.move.aE=some d/\k.move.aB<=d.dp/\d.dp+d.dq<aK
 ar:∃c,b.find k.move.ar=some c/\k.move.aB<=c.cp/\c.cp+c.cq<aK
 ne:k.move.aE≠k.move.ar
def Ih{id:Nat}(hn:b.named id=none){id':Nat}:(b.fate id' fate).named id=none:=by
 unfold ax.named at *;rw[afb] at *;intro x hx;obtain⟨y,hy,rfl⟩:=aeA.1 hx;have:=hn y hy;split<;>exact this
def Cb{id:Nat}(hn:b.named id=none):(b.release q n fate).named id=none:=by
 unfold ax.release;split
 ·exact Ih hn
 ·exact hn
def UH(G:px W)(ht:tB t)(NM:jZ t)(pv:kC t=0)(nt:gr t.flags)(hw:∀k∈b.kept,has k.move.flags 2->k.fate<=1->k.fate=1/\G2 b k)(hl:hs.length<800000)[i:Lc (bj p) L (b,hs) f]
 (h:∀cT,Ext (cY b) hs (cY (b.l6 t).2) cT 8->T W (f ((b.l6 t).2,cT)) (K (.i (b.l6 t).1))):T W L (nK (some ⟨p,0,none⟩) (ai t) K):=by
 have hL:f (b,hs)=L:=i.same;refine mX (p:=p) λhg=>?_;have ck:=yl pv;have hf:0<=t.flags/\t.flags<256:=by have:=ck.flags;omega
 have bad:∀r:Int,r≠0->(b.l6 t)=(r,b)->T W L (K (.i r)):=by
  intro r hr e;rw[e] at h;have:=h hs (Ext.refl _ _ _);rw[hL] at this;exact this
 unfold nK
 repeat' first|apply ws;intros|apply wb|with_reducible refine EL ?_|fail
 cases hn:b.named t.id with
 |some k=>
  obtain⟨hk,_⟩:=q9 hg hn;simp only[aep,aes]
  repeat' first|apply ws;intros|apply wb|with_reducible refine Fi hf hk.qx ?_|fail
  have:=bad (qy t k.asked) (oF _ _) (by
   unfold ax.l6
   have e1:∀(KN:Option Kept)(x y:Bool)(m:Nat),kO t (some k) KN x y m=qy t k.asked:=by
    intro KN x y m;unfold kO;rw[if_neg (by simpa using pv),if_neg (by simpa using nt)]
   rw[hn]
   cases b.named t.pending with
   |none=>dsimp only;rw[e1]
   |some k2=>dsimp only;rw[e1,if_pos (oF _ _)])
  exact T.dp this
 |none=>
 simp only[aew,aeI];apply ws;intros;have JU:∀(k2:Kept),b.named t.pending=some k2->∀(x y:Bool)(m:Nat),kO t none (some k2) x y m=(if kf (some k2) t≠0 then kf (some k2) t else if iP t k2.move then 26 else if has t.flags 4/\x=true then 30 else if has t.flags 4/\y=true then 31 else if 96<=m then 35 else 0):=by
  intro k2 _ x y m;unfold kO;rw[if_neg (by simpa using pv),if_neg (by simpa using nt)];dsimp only;by_cases g1: ¬has k2.move.flags 2
  ·have hv:kf (some k2) t=24:=by unfold kf;dsimp only;rw[if_pos g1]
   rw[hv,if_pos g1,if_pos (by decide)]
  by_cases g2:cZ t k2.move
  ·have hv:kf (some k2) t=25:=by unfold kf;dsimp only;rw[if_neg g1,if_pos g2]
   rw[hv,if_neg g1,if_pos g2,if_pos (by decide)]
  by_cases g3:1<k2.fate
  ·have hv:kf (some k2) t=25+k2.fate:=by unfold kf;dsimp only;rw[if_neg g1,if_neg g2,if_pos g3]
   rw[hv,if_neg g1,if_neg g2,if_pos g3,if_pos (by omega)]
  ·have hv:kf (some k2) t=0:=by unfold kf;dsimp only;rw[if_neg g1,if_neg g2,if_neg g3]
   rw[hv,if_neg g1,if_neg g2,if_neg g3,if_neg (show ¬((0:Int)≠0) by decide)]
 refine Q5 G (λm gS=>?_) (λk2 ru he=>?_)
 ·apply ws;intros;refine ki (by simpa using gS) ?_;have:=bad _ gS (by
   unfold ax.l6
   rw[hn]
   cases hp:b.named t.pending with
   |none=>
    dsimp only
    have:kO t none none false false b.kept.length=23:=by unfold kO;rw[if_neg (by simpa using pv),if_neg (by simpa using nt)]
    rw[this];rfl
   |some k2=>
    rw[hp] at gS
    dsimp only
    rw[JU k2 hp,if_pos gS,if_pos gS])
  exact T.dp this
 apply ws;intros;rw[ru] at he;obtain⟨kg,aaF⟩:=q9 hg ru;have JR:k2∈b.kept:=aeO ru;have h2p:has k2.move.flags 2/\k2.fate<=1:=by
  unfold kf at he;dsimp only at he;by_cases g1: ¬has k2.move.flags 2
  ·rw[if_pos g1] at he;cases he
  rw[if_neg g1] at he;by_cases g2:cZ t k2.move
  ·rw[if_pos g2] at he;cases he
  rw[if_neg g2] at he;by_cases g3:1<k2.fate
  ·rw[if_pos g3] at he;omega
  exact⟨ad4.1 g1,by omega⟩
 obtain⟨Q6,⟨⟨d,hd,hda,hds⟩,⟨c,hc,hca,Pz⟩,gS⟩⟩:=hw k2 JR h2p.1 h2p.2;have e0:∀r:Int,r=(if iP t k2.move then 26 else if has t.flags 4/\b.ja k2.move.aE (has k2.move.flags 64)=true then 30 else if has t.flags 4/\b.ja k2.move.ar (has k2.move.flags 128)=true then 31 else if 96<=b.kept.length then 35 else 0)->
  b.l6 t=(if r≠0 then(r,b) else(0,(b.release k2.move (bK t k2.move) (bU t)).jT t (jV t k2.move) 0)):=by
  intro r hr;subst hr;unfold ax.l6;rw[ru,hn];dsimp only;rw[JU k2 ru,he,if_neg (show ¬((0:Int)≠0) by decide)]
 have UT:has t.flags 8↔ ¬has t.flags 4:=(GJ pv nt).2.1;refine dX (by simp) ?_;apply ws;intros;refine Lk hf UT (λhb=>?_) (λhb=>?_)
 ·apply ws;intros;have:=bad 26 (by decide) (by rw[e0 26 (by rw[if_pos hb])];rfl);exact T.dp this
 have hN:bK t k2.move<aK:=by unfold bK;split;exact kg.move.aB;exact ht.aB
 have Ya:has t.flags 4->bK t k2.move<=k2.move.aB:=λh4=>by
  unfold iP at hb;by_cases hx:k2.move.aB<bK t k2.move
  ·exact absurd (.inl ⟨h4,hx⟩) hb
  ·omega
 have rG:=hg.ae;have lh:=hg.lh;have many:=hg.many;have cl:=hg.clock;have fin:∀(r1 r2 r3 r4:Nat)(fate:Int),fate=bU t->(if 96<=b.kept.length then b.l6 t=(35,b) else b.l6 t=(0,(b.release k2.move (bK t k2.move) (bU t)).jT t (jV t k2.move) 0))->
  T W (Sep.pt r4 (nm (bK t k2.move))::Sep.pt r3 (ai k2.move)::Sep.pt r2 (aI zK)::Sep.pt r1 (ai t)::L) (nK.j1 K (some ⟨p,0,none⟩) r3 r4 r1 fate):=by
  intro r1 r2 r3 r4 fate ZQ Cm;unfold nK.j1
  repeat' first|apply ws;intros|apply wb|with_reducible refine OY ?_|fail
  by_cases g3:96<=b.kept.length
  ·rw[if_pos g3] at Cm;rw[decide_eq_false (by omega)];apply ws;intros;have:=bad 35 (by decide) Cm;exact T.dp this
  rw[if_neg g3] at Cm;rw[decide_eq_true (by omega)];rw[Cm,<-ZQ] at h;apply ws;intros;have hf3:fate=2\/fate=3\/fate=4:=by rw[ZQ];unfold bU;split<;>simp
  have h24:fate=2->has t.flags 4:=λe=>by
   rw[ZQ] at e;unfold bU at e;split at e
   ·assumption
   ·cases e
  refine CN (p:=p) (k:=k2) (d:=d) (c:=c) (by rw[aaF];exact ru) Q6 kg.rN kg.move.aB hN hd hc gS hf3 (λe=>by have:=Ya (h24 e);omega) (λe=>by have:=Ya (h24 e);omega) hl λuV x1=>?_;have l1:=x1.len;have i1:=i.next (b.release k2.move (bK t k2.move) fate,uV);apply ws;intros;have hrk:(b.release k2.move (bK t k2.move) fate).kept.length=b.kept.length:=by unfold ax.release;rw[hd,hc];show(List.map _ _).length=_;rw[aeg];rfl
  have hrs:(b.release k2.move (bK t k2.move) fate).ae=b.ae:=by unfold ax.release;rw[hd,hc];rfl
  have hrc:(b.release k2.move (bK t k2.move) fate).clock=b.clock:=by unfold ax.release;rw[hd,hc];rfl
  have XJ:KG (o7 (b.release k2.move (bK t k2.move) fate) t (jV t k2.move) 0):=by
   have kt:=kg.Jw;have adv:=NM;refine⟨ht,⟨ht.id,kg.move.aE,kg.move.ar,hN,ht.pending,ht.timeout,kg.move.aF,kg.move.code,ht.flags,?_,?_⟩,NM,⟨NM.1,kt.2.1,kt.2.2.1,NM.2.2.2⟩,hf,hf,by show(0:Int)<=0/\(0:Int)<=4;decide,ck.timeout,?_⟩
   ·show re (ax.ae _+1);rw[hrs];unfold re;omega
   ·show re (ax.clock _);rw[hrc];unfold re;omega
   ·show 0<=ax.clock _/\ax.clock _<=_;rw[hrc];exact cl
  refine Jh (p:=p) (t:=jV t k2.move) (waits:=false) (fate:=0) (Cb hn) (by rw[hrk];omega) XJ rfl (by omega) λfj x2=>?_;apply ws;intros;have:=h fj ((x1.trans x2).mono (by omega));exact T.dp this
 apply ws;intros;refine dX (by decide) ?_;apply ws;intros;rw[aaZ hf.1 hf.2];refine dO (λg4=>?_) (λg4=>?_)
 ·apply ws;intros;refine Lj (p:=p) kg.rN hd hc ?_;have c1:(b.ja k2.move.aE (has k2.move.flags 64)=true)↔(8<=d.flags/\ ¬has k2.move.flags 64):=by unfold ax.ja;rw[hd];simp
  have c2:(b.ja k2.move.ar (has k2.move.flags 128)=true)↔(8<=c.flags/\ ¬has k2.move.flags 128):=by unfold ax.ja;rw[hc];simp
  by_cases g5:8<=d.flags/\ ¬has k2.move.flags 64
  ·rw[if_pos g5];apply ws;intros;refine ki (by decide) ?_;have:=bad 30 (by decide) (by rw[e0 30 (by rw[if_neg hb,if_pos ⟨g4,c1.2 g5⟩])];rfl);exact T.dp this
  rw[if_neg g5];by_cases g6:8<=c.flags/\ ¬has k2.move.flags 128
  ·rw[if_pos g6];apply ws;intros;refine ki (by decide) ?_;have:=bad 31 (by decide) (by rw[e0 31 (by rw[if_neg hb,if_neg (λhh=>g5 (c1.1 hh.2)),if_pos ⟨g4,c2.2 g6⟩])];rfl);exact T.dp this
  rw[if_neg g6];apply ws;intros;refine dX (by decide) ?_;refine fin _ _ _ _ _ (by unfold bU;rw[if_pos g4]) ?_;by_cases g7:96<=b.kept.length
  ·rw[if_pos g7,e0 35 (by rw[if_neg hb,if_neg (λhh=>g5 (c1.1 hh.2)),if_neg (λhh=>g6 (c2.1 hh.2)),if_pos g7])];rfl
  ·rw[if_neg g7,e0 0 (by rw[if_neg hb,if_neg (λhh=>g5 (c1.1 hh.2)),if_neg (λhh=>g6 (c2.1 hh.2)),if_neg g7])];rfl
 ·refine fin _ _ _ _ _ (by unfold bU;rw[if_neg g4]) ?_;by_cases g7:96<=b.kept.length
  ·rw[if_pos g7,e0 35 (by rw[if_neg hb,if_neg (λhh=>g4 hh.1),if_neg (λhh=>g4 hh.1),if_pos g7])];rfl
  ·rw[if_neg g7,e0 0 (by rw[if_neg hb,if_neg (λhh=>g4 hh.1),if_neg (λhh=>g4 hh.1),if_neg g7])];rfl
def Yb(G:px W)(ht:tB t)(NM:jZ t)(hw:∀k∈b.kept,has k.move.flags 2->k.fate<=1->k.fate=1/\G2 b k)(hl:hs.length<800000)[i:Lc (bj p) L (b,hs) f]
 (h:∀cT,Ext (cY b) hs (cY (b.nZ t).2) cT 8->T W (f ((b.nZ t).2,cT)) (K (.i (b.nZ t).1))):T W L (kn (some ⟨p,0,none⟩) (ai t) K):=by
 unfold kn
 repeat' first|apply ws;intros|apply wb|with_reducible refine Fh G ht ?_|fail
 unfold kn.j1;refine bB (λg1=>?_) (λg1=>?_)
 ·have g1:kC t≠0:=by simpa using g1
  have e:b.nZ t=b.move t:=by unfold ax.nZ;rw[if_neg (λhh=>g1 hh.1)]
  rw[e] at h;apply ws;intros;refine Sw G ht NM hl λcT hx=>?_;apply ws;intros;have:=h cT (hx.mono (by omega));exact T.dp this
 have g1:kC t=0:=by simpa using g1
 have ck:=yl g1
 repeat' first|apply ws;intros|apply wb|with_reducible refine ES (show 0<=t.flags/\t.flags<256 by have:=ck.flags;omega) ?_|fail
 by_cases g2:gr t.flags
 ·have e:b.nZ t=b.l6 t:=by unfold ax.nZ;rw[if_pos ⟨g1,g2⟩]
  rw[e] at h;rw[decide_eq_true g2];apply ws;intros;refine UH G ht NM g1 g2 hw hl λcT hx=>?_;apply ws;intros;have:=h cT hx;exact T.dp this
 ·have e:b.nZ t=b.move t:=by unfold ax.nZ;rw[if_neg (λhh=>g2 hh.2)]
  rw[e] at h;rw[decide_eq_false g2];apply ws;intros;refine Sw G ht NM hl λcT hx=>?_;apply ws;intros;have:=h cT (hx.mono (by omega));exact T.dp this
end
section
variable {W:World} {L R:LH} {K:VK} {X:WK} {p:Nat} {b:ax} {hs:List C} {f:ax×List C->LH}
def zI:Item:=⟨0,0,0⟩
instance{x1 x2 x3 x4:Value}:Wr [x1,x2,x3,x4] 0 [.i 0,.i 0,.u 0,.u 0] (dG zI):=⟨rfl,adW _,my zI⟩
instance{x:Item}:Sub (dG x) 2 2 (nm x.id):=⟨rfl,λj v h=>by
 match j with
 |0=>exact h
 |1=>exact h
 |j+2=>simp[nm] at h⟩
def Ni{r o:Nat}{cs:LV}{bb:OA}{c:Nat}{h:List Item}(hv:cs[o]?=some (.l bb h.length c))(hl:h.length<10000)
 (hx:∀x,h[0]?=some x->T W (Sep.pt r cs::own bb h.length c 4 (h.flatMap dG)::R) (K (.tuple ⟨[.agg ⟨dG x⟩,.bool true]⟩)))
 (h0:h=[]->T W (Sep.pt r cs::own bb h.length c 4 (h.flatMap dG)::R) (K (.tuple ⟨[.agg ⟨dG zI⟩,.bool false]⟩))):
 T W (Sep.pt r cs::own bb h.length c 4 (h.flatMap dG)::R) (jQ (some ⟨r,o,none⟩) K):=by
 unfold jQ po;refine qE λr1=>?_;refine tM ?_;refine zk ?_;refine jM hv ?_;refine tI ?_;refine lX ?_;refine bB (λg=>?_) (λg=>?_)
 ·have g:h=[]:=by
   have:((h.length:Nat):Int)=0:=by simpa using g
   exact List.length_eq_zero_iff.1 (by omega)
  apply ws;intros;have:=h0 g;exact T.dp this
 ·have g:0<h.length:=by
   have: ¬((h.length:Nat):Int)=0:=by simpa using g
   omega
  refine zk ?_;refine jM hv ?_;refine tI ?_;have gx:=adQ g;refine bR ⟨by omega,by omega⟩ λrb hb=>?_;subst hb;refine dy (o:=0) eX gx ?_;apply ws;intros;have:=hx _ gx;exact T.dp this
def LB{q:Core}{f:Core->LH}[i:Lc (dM p) L q f](hl:q.ends.length<10000)
 (h1:∀x,x∈q.ends->(∀y∈q.ends,¬bf y x)->T W L (K (.tuple ⟨[.agg ⟨dG x⟩,.bool true]⟩)))(h0:q.ends=[]->T W L (K (.tuple ⟨[.agg ⟨dG zI⟩,.bool false]⟩))):T W L (jQ (some ⟨p,6,none⟩) K):=by
 have hL:f q=L:=i.same;rw[<-hL] at h0 h1;refine mD (p:=p) λb1 c1 b2 c2 b3 c3 hp R g1 g2 hc=>?_;refine T.HG ?_;refine Ni rfl (by rw[g2.length_eq];exact hl) (λx hx=>?_) (λhn=>?_)
 ·refine T.AB ?_;exact hc [] q b1 c1 b2 c2 b3 c3 hp _ g1 g2 (h1 x (g2.mem_iff.1 (aei hx)) λy hy=>g1.first hx y (g2.mem_iff.2 hy))
 ·refine T.AB ?_;exact hc [] q b1 c1 b2 c2 b3 c3 hp _ g1 g2 (h0 (by subst hn;exact(List.nil_perm.1 g2)))
def tick(b:ax)(now:Int):ax:={b with clock:=if b.clock<now/\now<=1099511627776 then now else b.clock}
def Qa[i:Lc (bj p) L (b,hs) f]{now:Int}(hl:hs.length<900000)
 (h:∀cT,Ext (cY b) hs (cY (Go.Up.tick b now)) cT 1->T W (f (Go.Up.tick b now,cT)) (K (.tuple ⟨[]⟩))):T W L (cn (some ⟨p,0,none⟩) now K):=by
 refine Hb (p:=p) λla lk ti tn vs bx R hg hc lY=>?_;have JL:vs.reverse.length<900000:=by rw[aeM,hc.len];omega
 have XY:=hg.clock;have same: ¬(b.clock<now/\now<=1099511627776)->Go.Up.tick b now=b:=λhn=>by unfold Go.Up.tick;rw[if_neg hn]
 unfold cn;apply ws;intros;rename_i r1;refine dO (λg=>?_) (λg=>?_)
 ·have g:now<=b.clock:=g;have e:=same (by omega);rw[e] at h;have fin:=lY [] b hs vs bx _ hg hc (h hs (Ext.refl _ _ _));unfold cn.j1;apply ws;intros;exact T.dp fin
 have g: ¬now<=b.clock:=g;unfold cn.j1;refine dO (λg2=>?_) (λg2=>?_)
 ·have g2:now>1099511627776:=g2;have e:=same (by omega);rw[e] at h;have fin:=lY [] b hs vs bx _ hg hc (h hs (Ext.refl _ _ _));exact T.dp fin
 have g2: ¬now>1099511627776:=g2;have e:Go.Up.tick b now={b with clock:=now}:=by unfold Go.Up.tick;rw[if_pos ⟨by omega,by omega⟩]
 rw[e] at h;apply ws;intros;rename_i r2;refine Hu (p:=p) ?_;apply ws;intros;refine rE (p:=p) (by show vs.reverse.length<_;omega) rfl rfl ?_;apply ws;intros;refine cz (cz ?_);have il:Good {b with clock:=now}:={hg with clock:=by show 0<=now/\now<=_;omega};have fin:=λkD c1=>lY [] {b with clock:=now} _ (Se r2 r1::vs) kD _ il c1 (h _ ⟨[cY b],rfl,rfl,by simp⟩);simp only[dA,afk] at fin;refine fin _ ⟨?_,hc.mono λx hx=>by simp[hx]⟩;exact zi.time (c:=cY {b with clock:=now}) (by repeat (first|exact aeF.head _|apply aeF.tail)) (by repeat (first|exact aeF.head _|apply aeF.tail))
def Na[i:Lc (bj p) L (b,hs) f]
 (h1:∀k,k∈b.kept->ju b.clock k->T W L (K (.tuple ⟨[.agg ⟨aI k⟩,.bool true]⟩)))
 (h0:(∀k∈b.kept,¬ju b.clock k)->T W L (K (.tuple ⟨[.agg ⟨aI zK⟩,.bool false]⟩))):T W L (cG (some ⟨p,0,none⟩) K):=by
 have hL:f (b,hs)=L:=i.same;refine Hb (p:=p) λla lk ti tn vs bx R hg hc lY=>?_;have many:=hg.many;unfold cG;apply ws;intros;refine LB (p:=p) (by have:=xa b;show(b.kept.filterMap df).length<_;omega) (λx hx uW=>?_) (λhn=>?_)
 ·obtain⟨k,hk,hkd⟩:=List.mem_filterMap.1 hx;obtain⟨e1,e2,e3,e4,e5⟩:=nw hkd;have hn:b.named x.id=some k:=by
   obtain⟨n,hn,rfl⟩:=List.getElem_of_mem hk;have:=uE (key:=λx:Kept=>x.move.id) hg.names hn;rw[e2];exact(rR (key:=λx:Kept=>x.move.id) this).2.2
  apply ws;intros;unfold cG.j1;refine dO (λg=>?_) (λg=>?_)
  ·have g:x.due<=b.clock:=g;have fin:=lY [] b hs vs bx _ hg hc (by rw[hL];exact h1 k hk ⟨e4,e5,by omega⟩);apply ws;intros;refine EM (b:=b) (q:=dA la lk ti tn vs (cY b)) many ?_;rw[hn];simp only[aep,aes];apply ws;intros;exact T.dp fin
  ·have g: ¬x.due<=b.clock:=g;have fin:=lY [] b hs vs bx _ hg hc (by
    rw[hL]
    refine h0 λk' yb ho=>?_
    have SN:df k'=some ⟨k'.move.born+k'.move.timeout,k'.move.ae,k'.move.id⟩:=by unfold df;rw[if_pos ⟨ho.1,ho.2.1⟩]
    have:=uW _ (List.mem_filterMap.2 ⟨k',yb,SN⟩)
    have h3:=ho.2.2
    unfold bf at this
    dsimp only at this
    omega)
   apply ws;intros;exact T.dp fin
 ·have fin:=lY [] b hs vs bx _ hg hc (by
   rw[hL]
   refine h0 λk' yb ho=>?_
   have SN:df k'=some ⟨k'.move.born+k'.move.timeout,k'.move.ae,k'.move.id⟩:=by unfold df;rw[if_pos ⟨ho.1,ho.2.1⟩]
   have:_∈b.kept.filterMap df:=List.mem_filterMap.2 ⟨k',yb,SN⟩
   rw[show b.kept.filterMap df=[] from hn] at this
   cases this)
  apply ws;intros;unfold cG.j1;apply ws;intros;exact T.dp fin
end
def Du{b:ax}{m:Model}(hs:l7 b m)(hg:Md.Ground m){id:Nat}(h:id∈m.made.map (·.id)):∃a,a∈m.made/\a.id=id/\b.find id=some (Md.full m.kept a):=by
 obtain⟨a,ha,rfl⟩:=aeA.1 h;refine⟨a,ha,rfl,?_⟩;rw[hs.find];unfold Model.find;rw[m9 hg.ids ha];rfl
def BV{b:ax}{m:Model}(hs:l7 b m)(hg:Md.Ground m){k:Kept}(hk:k∈m.kept)(h1:k.fate=1):G2 b k:=by
 obtain⟨gS,hd,hc⟩:=hg.tO k hk;obtain⟨d,Ei,EW,fd⟩:=Du hs hg hd;obtain⟨c,Mj,Ej,fc⟩:=Du hs hg hc;have zd:=hg.zero d Ei;have zc:=hg.zero c Mj;refine⟨⟨_,fd,?_,?_⟩,⟨_,fc,?_,?_⟩,gS⟩
 ·have:=OW (vU d.id) m.kept k hk;have e:vU d.id k=k.move.aB:=if_pos ⟨h1,EW.symm⟩;show k.move.aB<=d.dp+S (vU d.id) m.kept;omega
 ·show d.dp+S (vU d.id) m.kept+(d.dq+S (yh d.id) m.kept)<aK;have:=hg.vJ d Ei;omega
 ·have:=OW (vV c.id) m.kept k hk;have e:vV c.id k=k.move.aB:=if_pos ⟨h1,Ej.symm⟩;show k.move.aB<=c.cp+S (vV c.id) m.kept;omega
 ·show c.cp+S (vV c.id) m.kept+(c.cq+S (yi c.id) m.kept)<aK;have:=hg.sY c Mj;omega
def RW{b:ax}{m:Model}(hs:l7 b m)(hg:Md.Ground m):∀k∈b.kept,has k.move.flags 2->k.fate<=1->k.fate=1/\G2 b k:=λk hk h2 hf=>by
 rw[hs.kept] at hk;have:=hg.tp k hk;have h1:k.fate=1:=by have:=this.2.2.1 h2;omega
 exact⟨h1,BV hs hg hk h1⟩
def Bu(c:Int)(k:Kept):Kept:=if ju c k then{k with fate:=4} else k
def yI(c:Int)(l:List Kept):Nat:=(l.filter λk=>ju c k).length
def CZ{c:Int}:∀{l:List Kept} {i:Nat}(hi:i<l.length),ju c l[i]->yI c (l.set i {l[i] with fate:=4})+1=yI c l
 |x::l,0,hi,h=>by
  have h2: ¬ju c {x with fate:=4}:=λhh=>absurd hh.1 (show ¬(4:Int)=1 by decide);have h:ju c x:=h;show((({x with fate:=4}:Kept)::l).filter _).length+1=((x::l).filter _).length;rw[aeQ (by simpa using h2),aeP (by simpa using h),ad8]
 |x::l,i+1,hi,h=>by
  have:=CZ (c:=c) (l:=l) (i:=i) (by simpa using hi) h;show((x::l.set i _).filter _).length+1=((x::l).filter _).length;by_cases hx:ju c x
  ·rw[aeP (by simpa using hx),aeP (by simpa using hx),ad8,ad8];exact congrArg (·+1) this
  ·rw[aeQ (by simpa using hx),aeQ (by simpa using hx)];exact this
structure R3(m m':Model):Prop where
 made:m'.made=m.made
 ae:m'.ae=m.ae
 clock:m'.clock=m.clock
 kept:m'.kept.map (Bu m.clock)=m.kept.map (Bu m.clock)
def R3.refl(m:Model):R3 m m:=⟨rfl,rfl,rfl,rfl⟩
def C0{b:ax}{m0 m:Model}(hs:l7 b m)(hg:Md.Ground m)(hx:R3 m0 m){k:Kept}(hk:k∈b.kept)(ho:ju b.clock k):
 b.named k.move.id=some k/\G2 b k/\∃m',l7 (b.release k.move 0 4) m'/\Md.Ground m'/\R3 m0 m'/\yI m0.clock m'.kept+1=yI m0.clock m.kept:=by
 rw[hs.kept] at hk;rw[hs.clock] at ho;obtain⟨i,hi,rfl⟩:=List.getElem_of_mem hk;have JO:b.named m.kept[i].move.id=some m.kept[i]:=by
  have:=uE (key:=λx:Kept=>x.move.id) hg.names hi;rw[hs.D8];exact(rR (key:=λx:Kept=>x.move.id) this).2.2
 refine⟨JO,BV hs hg hk ho.1,m.cI i 4,hs.release hg hi ho.1 (.inr rfl) 0,hg.cI hi ho.1 (.inr (.inr rfl)),⟨hx.made,hx.ae,hx.clock,?_⟩,?_⟩
 ·rw[<-hx.kept];rw[hx.clock] at ho;exact(Gx hi m0.clock).resolve_right (λhh=>hh ho)
 ·rw[hx.clock] at ho;rw[ou hi];exact CZ hi ho
def C1{b:ax}{m0 m:Model}(hs:l7 b m)(hx:R3 m0 m)(h:∀k∈b.kept,¬ju b.clock k):m={m0 with kept:=m0.kept.map (Bu m0.clock)}:=by
 have h2:m.kept.map (Bu m0.clock)=m.kept:=Gy (m:=m) (clock:=m0.clock) λk hk=>by
  have:=h k (by rw[hs.kept];exact hk);rwa[hs.clock,hx.clock] at this
 rw[<-hx.kept,h2];obtain⟨x1,x2,x3,x4⟩:=hx;cases m;cases m0
 simp only at x1 x2 x3;subst x1;subst x2;subst x3;rfl
def qe(m:Model)(now:Int):Model:={m with clock:=if m.clock<now/\now<=1099511627776 then now else m.clock}
def DJ(m:Model)(now:Int):m.time now={qe m now with kept:=(qe m now).kept.map (Bu (qe m now).clock)}:=rfl
def LX{b:ax}{m:Model}(hs:l7 b m)(now:Int):l7 (Go.Up.tick b now) (qe m now):=⟨hs.ag,hs.kept,by unfold Go.Up.tick qe;simp only[hs.clock],hs.ae⟩
def zg{m:Model}(hg:Md.Ground m)(now:Int):Md.Ground (qe m now):=⟨hg.zero,hg.ids,hg.lh,hg.names,hg.tp,hg.tO,hg.some_,hg.vJ,hg.sY,hg.qY⟩
end Go.Up
