/- Part of the proof: see the last text. -/
import Derived.Test.YtnffemlgkghcfaaGreatDoorPB
set_option linter.all false
set_option maxRecDepth 100000
set_option synthInstance.maxSize 100000
open Bool renaming eq_iff_iff→aee,false_eq_true→aeh,false_ne_true→ael
open Decidable renaming not_not→ad6
open Go.IntKind renaming i64→adP
open Int renaming toNat_natCast→adT,le_refl→afm
open List renaming map_cons→aet,map_nil→afs,getElem?_eq_getElem→adS,getElem?_eq_some_iff→adU,replicate→ad8,append_nil→aed,getElem?_set→aeo,map_append→aep,getElem?_map→aeF,flatMap_cons→aeG,flatMap_append→aeP,getElem?_eq_none→aeT,ext_getElem?→afb,getElem?_range→afk,range→afo,map_map→aft,length_cons→ad',mem_of_getElem?→aek,mem_or_eq_of_mem_set→aeI,length_set→aeX,length_replicate→aeZ,set_cons_succ→ae7,getElem?_of_mem→afa,take_length→ad5,Perm→aej,take_succ_eq_append_getElem→aeM,perm_middle→ae4,length_append→adV,length_take→adX,append_assoc→ad0,length_drop→ad4,take_add_one→aeb,take_append_drop→aem,length_reverse→aeO,pairwise_iff_getElem→aeY,getElem?_drop→ae8,perm_append_comm→ad1,getElem?_append_left→aef,drop_eq_getElem_cons→aex,drop_of_length_le→aez,getElem?_take→afi,length_singleton→aff,Sublist→ad7,mem_map→aeC,mem_cons→ae',nil_append→aev,set_set→ae6,take_zero→afh,reverse_cons→afn,mem_append→aew,mem_of_find?_eq_some→aeQ,map_congr_left→ae9,find?_eq_none→afc,getElem_mem→aeg,length_map→aei,getElem?_cons_succ→ad9,cons_append→ae5,Mem→aeH,getElem?_append_right→aes,filter_cons_of_pos→aeR,filter_cons_of_neg→aeS
open Nat renaming zero_add→adW,zero_le→ad2,mod_eq_of_lt→aeB,mul_le_mul_right→aeE,add_mul→afg,mul_comm→afr,pow_le_pow_right→aeJ,le_refl→adY,add_zero→aeN,sub_self→afe,mul_one→afp
open Option renaming some→aec,map_some→aeD,isSome_some→aeq,getD_some→aeu,isSome_none→aey,getD_none→aeK,map→afv
namespace Go.Up
open Go.Sep Go.Den Go.RowKit Go.Prog Go.Md
def Es:∀(xs ys:List Int),xs.length=ys.length->fo (xs.map (.int .i64)) (ys.map (.int .i64))=decide (xs=ys)
 |[],[],_=>rfl
 |[],_::_,h=>by simp at h
 |_::_,[],h=>by simp at h
 |x::xs,y::ys,h=>by
  simp only[aet,fo,vM];rw[Es xs ys (by simpa using h),aee];simp
def ke{a b:Nat}{xs ys:LV}:fo (nm a++xs) (nm b++ys)=(decide (a=b)&&fo xs ys):=by rw[pf (show(nm a).length=(nm b).length from rfl),S4]
def Er(t u:Move):fo (ai t) (ai u)=decide (t=u):=by
 have e:=Es [t.timeout,t.aG,t.code,t.flags,t.ae,t.born] [u.timeout,u.aG,u.code,u.flags,u.ae,u.born] rfl;simp only[aet,afs] at e;unfold ai;rw[ke,ke,ke,ke,ke,e];rw[aee];obtain⟨a,b,c,d,e,f,g,h,i,j,k⟩:=t;obtain⟨a',b',c',d',e',f',g',h',i',j',k'⟩:=u;simp[and_assoc]
def Rg(t u:aP):fo (ak t) (ak u)=decide (t=u):=by
 have e:=Es [t.aG,t.code,t.flags,t.ae] [u.aG,u.code,u.flags,u.ae] rfl;simp only[aet,afs] at e;unfold ak;rw[ke,ke,ke,ke,ke,e];rw[aee];obtain⟨a,b,c,d,e,f,g,h,i⟩:=t;obtain⟨a',b',c',d',e',f',g',h',i'⟩:=u;simp[and_assoc]
def Rf(t u:Kept):fo (aJ t) (aJ u)=decide (t=u):=by
 unfold aJ;rw[pf (show(ai t.asked).length=(ai u.asked).length from rfl),pf (show(ai t.move).length=(ai u.move).length from rfl),Er,Er,aee];obtain⟨a,b,c⟩:=t;obtain⟨a',b',c'⟩:=u;simp[fo,vM]
section
variable {W:World} {L:LH} {K:VK} {a b:aP} {t u:Move} {k j:Kept}
def MJ{K:Bool->WK}(h:T W L (K (decide (t=u)))):T W L (nr [.u 0,.u 0,.u 0,.u 0,.u 0,.u 0,.u 0,.u 0,.u 0,.u 0,.i 0,.i 0,.i 0,.i 0,.i 0,.i 0] (ai t) (ai u) K):=I2 rfl rfl (by rw[Er];exact h)
def Si{K:Bool->WK}(h:T W L (K (decide (a=b)))):T W L (nr [.u 0,.u 0,.u 0,.u 0,.u 0,.u 0,.u 0,.u 0,.u 0,.u 0,.i 0,.i 0,.i 0,.i 0] (ak a) (ak b) K):=I2 rfl rfl (by rw[Rg];exact h)
def WG{K:Bool->WK}(h:T W L (K (decide (k=j)))):T W L (nr [.u 0,.u 0,.u 0,.u 0,.u 0,.u 0,.u 0,.u 0,.u 0,.u 0,.i 0,.i 0,.i 0,.i 0,.i 0,.i 0,.u 0,.u 0,.u 0,.u 0,.u 0,.u 0,.u 0,.u 0,.u 0,.u 0,.i 0,.i 0,.i 0,.i 0,.i 0,.i 0,.i 0] (aJ k) (aJ j) K):=I2 rfl rfl (by rw[Rf];exact h)
def I0{cs:LV}{n j:Nat}{v:Value}{K:VK}(hj:j<n)(hv:cs[j]?=some v)(h:T W L (K v)):T W L (yP cs n (j:Int) K):=λw hs=>⟨v,⟨by omega,by omega,by rw[adT];exact hv⟩,h w hs⟩
def OL(ha:0<=a.flags/\a.flags<256)(hb:0<=b.flags/\b.flags<256)(h:T W L (K (.i (ru a b)))):T W L (mj (ak a) (ak b) K):=by
 unfold mj mj.j1
 repeat' first|apply ws;intros|apply wb|with_reducible refine bE (λh1=>?_) (λh1=>?_)|fail
 all_goals
  refine T.fin (T.dp h) ?_
  congr 1
  unfold ru
  all_goals try simp only[S8 ha.1 ha.2,S8 hb.1 hb.2,bz] at *
  all_goals (split<;>omega)
def ER(hf:0<=t.flags/\t.flags<256)(h:T W L (K (.bool (decide (gv t.flags))))):T W L (nZ (ai t) K):=by
 unfold nZ;apply ws;intros;refine T.fin (T.dp h) ?_;congr 1;(rw[aee];(try simp only[bz,false_iff,true_iff] at *)<;>(try simp only[S7 hf.1 hf.2,ad6] at *)<;>omega)
def pZ(hf:0<=t.flags/\t.flags<256)(h:T W L (K (.bool (decide (has t.flags 2))))):T W L (iI (ai t) K):=by
 unfold iI;apply ws;intros;refine T.fin (T.dp h) ?_;congr 1;(rw[aee];(try simp only[bz,false_iff,true_iff] at *)<;>(try simp only[GR hf.1 hf.2,ad6] at *)<;>omega)
def BY(hf:0<=t.flags/\t.flags<256)(h:T W L (K (.bool (decide (has t.flags 16\/has t.flags 32))))):T W L (mD (ai t) K):=by
 unfold mD;apply ws;intros;refine T.fin (T.dp h) ?_;congr 1;(rw[aee];(try simp only[bz,false_iff,true_iff] at *)<;>(try simp only[Zb hf.1 hf.2,ad6] at *)<;>omega)
def Fg(ht:0<=t.flags/\t.flags<256)(hu:0<=u.flags/\u.flags<256)(h:T W L (K (.i (qx t u)))):T W L (qb (ai t) (ai u) K):=by
 unfold qb
 repeat' first|apply ws;intros|apply wb|with_reducible refine MJ ?_|fail
 rw[S6 ht.1 ht.2,S6 hu.1 hu.2];unfold qx at h;have e:({t with flags:=t.flags/2* 2}:Move)={u with flags:=u.flags/2* 2}↔({t with flags:=t.flags/2}:Move)={u with flags:=u.flags/2}:=by
  have Ma:t.flags/2* 2=u.flags/2* 2↔t.flags/2=u.flags/2:=by omega
  simp only[Md.Move.mk.injEq,Ma]
 refine dP (λh1=>?_) (λh1=>?_)
 ·rw[if_pos (e.1 (h1))] at h;exact T.dp h
 ·rw[if_neg (λhh=>h1 (e.2 hh))] at h;exact T.dp h
def zy(f:Int)(i:Nat):Int:=(([2,4,8]:List Int).take i).foldl (λn b=>if has f b then n+1 else n) 0
def Hq(hf:0<=t.flags/\t.flags<256)(h:T W L (K (.bool (decide (ft t.flags))))):T W L (gQ (ai t) K):=by
 unfold gQ;apply ws;intros;rename_i r;intro w hs;refine⟨λvs w=>∃i:Nat,i<=3/\vs=[.p (some (ad r 0)),.bool false,.i (zy t.flags i),.agg ⟨[.i 2,.i 4,.i 8]⟩,.i (i:Int)]/\St W w (Sep.pt r (ai t)::L),
  λvs _=>match vs with|[_,_,_,_,.int _ j]=>3-j.toNat|_=>0,⟨0,ad2 _,rfl,hs⟩,?_⟩
 rintro a1 b1 n1 Oi n2 w2 ⟨j,hj,e,hs⟩;cases e
 refine T.at ?_ hs;simp only[dU,adW];refine dP (λh1=>?_) (λh1=>?_)
 ·have aZ:j<3:=by omega
  have e5:=lY j;have key:∃m:Int,([.i 2,.i 4,.i 8]:LV)[j]?=some (.i m)/\(bB .i64 .and t.flags m=0↔ ¬has t.flags m)/\zy t.flags (j+1)=(if has t.flags m then zy t.flags j+1 else zy t.flags j)/\0<=zy t.flags j/\zy t.flags j<=j:=by
   match j,aZ with
   |0,_=>exact⟨2,rfl,GR hf.1 hf.2,rfl,afm 0,afm 0⟩
   |1,_=>exact⟨4,rfl,GQ hf.1 hf.2,rfl,by simp only[zy,List.take,List.foldl];split<;>decide,by simp only[zy,List.take,List.foldl];split<;>decide⟩
   |2,_=>exact⟨8,rfl,OB hf.1 hf.2,rfl,by simp only[zy,List.take,List.foldl];split<;>split<;>decide,by simp only[zy,List.take,List.foldl];split<;>split<;>decide⟩
  obtain⟨m,k1,k2,k3,k4,k5⟩:=key;refine I0 (by omega) k1 ?_
  repeat' first|apply ws;intros|apply wb|with_reducible refine bE (λh1=>?_) (λh1=>?_)|fail
  all_goals rw[e5]
  ·have h2:has t.flags m:=by
    have:=(bne_iff_ne.1 h1);rw[ne_eq,k2,ad6] at this;exact this
   rw[if_pos h2] at k3;rw[aw (by omega),<-k3];exact λw3 h3=>⟨⟨j+1,aZ,rfl,h3⟩,by show 3-((j+1:Nat):Int).toNat<3-(j:Int).toNat;omega⟩
  ·have h2: ¬has t.flags m:=k2.1 (bne_eq_false_iff_eq.1 h1);rw[if_neg h2] at k3;rw[<-k3];exact λw3 h3=>⟨⟨j+1,aZ,rfl,h3⟩,by show 3-((j+1:Nat):Int).toNat<3-(j:Int).toNat;omega⟩
 ·have he:j=3:=by omega
  subst he;have hc:zy t.flags 3<=1↔ ¬(has t.flags 2/\has t.flags 4\/has t.flags 2/\has t.flags 8\/has t.flags 4/\has t.flags 8):=by
   simp only[zy,List.take,List.foldl];by_cases h2:has t.flags 2<;>by_cases h4:has t.flags 4<;>by_cases h8:has t.flags 8<;>simp[h2,h4,h8]
  simp only[gQ.j1,dU,adW]
  repeat' first|apply ws;intros|apply wb|with_reducible first|refine ER hf ?_|refine pZ hf ?_|refine bE (λh1=>?_) (λh1=>?_)|fail
  all_goals
   refine T.fin (T.dp h) ?_
   congr 1
   rw[aee]
   all_goals try simp only[S7 hf.1 hf.2,acZ hf.1 hf.2,ac0 hf.1 hf.2,hc,true_iff,false_iff,bz] at *
   all_goals (unfold ft;simp_all<;>(intros;omega))
def LC(t:Move):Int:=if t.pending=0 then 16 else if t.aG<0\/4294967296<=t.aG then 8 else if t.code<0\/65536<=t.code then 9 else 0
def LB(t:Move):Int:=if t.aF=0 then 12 else if t.ar=0 then 13 else if t.aF=t.ar then 14 else if t.pending≠0 then 15 else if t.aB=0/\ ¬has t.flags 16/\ ¬has t.flags 32 then 18
 else if t.aG<1\/4294967296<=t.aG then 8 else if t.code<1\/65536<=t.code then 9 else 0
def N9(h:T W L (K (.i (LC t)))):T W L (kF (ai t) K):=by
 unfold kF kF.j1
 repeat' first|apply ws;intros|apply wb|with_reducible first|refine qy ?_|refine bE (λh1=>?_) (λh1=>?_)|fail
 all_goals try simp only[bz] at *
 all_goals (refine T.fin (T.dp h) ?_;congr 1;unfold LC;repeat' split)
 all_goals omega
def Nx(hf:0<=t.flags/\t.flags<256)(h:T W L (K (.i (LB t)))):T W L (gu (ai t) K):=by
 unfold gu gu.j1 gu.j2
 repeat' first|apply ws;intros|apply wb|with_reducible first|refine qy ?_|refine BY hf ?_|refine bE (λh1=>?_) (λh1=>?_)|fail
 all_goals try simp only[bz] at *
 all_goals (refine T.fin (T.dp h) ?_;congr 1;unfold LB has at *;repeat' split)
 all_goals first|rfl|omega
def Ff(G:pn W)(ht:uX t)(h:T W L (K (.i (kz t)))):T W L (cS (ai t) K):=by
 by_cases hf:0<=t.flags/\t.flags<256
 ·unfold cS cS.j1 cS.j2 cS.j4 cS.j3;rw[show kz t=if t.flags<0\/255<t.flags then 3 else if t.id=0 then 4 else if t.id=aK-1 then 5 else if ¬ft t.flags then 6
   else if t.ae≠0\/t.born≠0 then 7 else if t.timeout<0\/1073741824<t.timeout\/0<t.timeout/\ ¬has t.flags 2 then 17
   else if gv t.flags then LC t else LB t from rfl] at h
  repeat' first|apply ws;intros|apply wb|with_reducible first|refine qy ?_|refine IZ ⟨tQ _,G.QC⟩ ?_|refine Hq hf ?_|refine ER hf ?_|refine pZ hf ?_|refine N9 ?_|refine Nx hf ?_|refine bE (λh1=>?_) (λh1=>?_)|fail
  all_goals try simp only[bz] at *
  all_goals (refine T.fin (T.dp h) ?_;congr 1;repeat' split)
  all_goals first|rfl|omega|(simp_all;done)|(simp_all;omega)
 ·unfold cS cS.j1;rw[show kz t=3 from if_pos (by omega)] at h;apply ws;intros;refine dP (λh1=>?_) (λh1=>?_)
  ·rw[gW];exact T.dp h
  apply ws;intros;rw[decide_eq_true (by omega),gW];exact T.dp h
end
end Go.Up
namespace Go.Md
def gg(a:aP)(aF:Bool):Nat:=if aF then a.cq-(a.dp+a.dq) else a.dq-(a.cp+a.cq)
def more(a:aP)(aF:Bool)(n:Nat)(pending:Bool):aP×Int:=
 if aF then
  (if aK<=a.dp+a.dq+n then(a,32) else if has a.flags 2/\gg a true<n then(a,33) else(if pending then{a with dp:=a.dp+n} else{a with dq:=a.dq+n},0))
 else
  (if aK<=a.cp+a.cq+n then(a,32) else if has a.flags 4/\gg a false<n then(a,34) else(if pending then{a with cp:=a.cp+n} else{a with cq:=a.cq+n},0))
def Model.full(m:Model)(a:aP):aP:=m.kept.foldl sw a
def Model.find(m:Model)(id:Nat):Option aP:=m.made.find? λa=>a.id=id
def Model.name(m:Model)(id:Nat):Option Nat:=m.kept.findIdx? λk=>k.move.id=id
def Model.make(m:Model)(a:aP):Int×Model:=
 if qE a≠0 then(qE a,m) else match m.find a.id with
 |some x=>(ru a x,m)
 |none=>if 32<=m.made.length then(35,m) else(0,{m with ae:=m.ae+1,made:=m.made++[{a with ae:=m.ae+1,flags:=a.flags/2* 2}]})
def Model.ka(m:Model)(asked t:Move)(fate:Int):Model:=
 {m with ae:=m.ae+1,kept:=m.kept++[⟨asked,{t with ae:=m.ae+1,born:=m.clock},fate⟩]}
def bI(t:Move)(d c:aP):Nat×Int:=
 let n0:=if t.aB=0 then aK-1 else t.aB
 let n1:=if has t.flags 16 then min n0 (gg d true) else n0
 if has t.flags 16/\n1=0 then(0,33) else
 let n2:=if has t.flags 32 then min n1 (gg c false) else n1
 if has t.flags 32/\n2=0 then(0,34) else(n2,0)
def gM(t:Move)(named:Option Kept)(d c:Option aP)(many:Nat):Int×Nat:=
 if kz t≠0 then(kz t,0) else if gv t.flags then(6,0) else match named with
 |some k=>(qx t k.asked,0)
 |none=>match d with
  |none=>(19,0)
  |some d=>match c with
   |none=>(20,0)
   |some c=>
    if d.aG≠c.aG then(21,0) else if d.aG≠t.aG then(22,0) else if 8<=d.flags then(30,0) else if 8<=c.flags then(31,0)
    else if 96<=many then(35,0)
    else if(bI t d c).2≠0 then((bI t d c).2,0)
    else if(more d true (bI t d c).1 (decide (has t.flags 2))).2≠0 then((more d true (bI t d c).1 (decide (has t.flags 2))).2,0)
    else if(more c false (bI t d c).1 (decide (has t.flags 2))).2≠0 then((more c false (bI t d c).1 (decide (has t.flags 2))).2,0)
    else(0,(bI t d c).1)
def waits(t:Move):Int:=if has t.flags 2 then 1 else 0
def Model.named(m:Model)(id:Nat):Option Kept:=m.kept.find? λk=>k.move.id=id
def Model.move(m:Model)(t:Move):Int×Model:=
 let r:=gM t (m.named t.id) ((m.find t.aF).map m.full) ((m.find t.ar).map m.full) m.kept.length
 if r.1≠0 then(r.1,m) else(0,m.ka t {t with aB:=r.2} (waits t))
def Model.closed(m:Model)(id:Nat)(RD:Nat):Bool:=
 match m.find id with
 |some a=>decide (8<=((m.kept.modify RD λk=>{k with fate:=3}).foldl sw a).flags)
 |none=>false
def c7(t p:Move):Prop:=(t.aF≠0/\t.aF≠p.aF)\/(t.ar≠0/\t.ar≠p.ar)\/(t.aG≠0/\t.aG≠p.aG)\/(t.code≠0/\t.code≠p.code)
instance(t p:Move):Decidable (c7 t p):=by unfold c7;infer_instance
def bM(t p:Move):Nat:=if t.aB=0 then p.aB else t.aB
def iO(t p:Move):Prop:=(has t.flags 4/\p.aB<bM t p)\/(¬has t.flags 4/\bM t p≠p.aB)
instance(t p:Move):Decidable (iO t p):=by unfold iO;infer_instance
def kK(t:Move)(named KI:Option Kept)(Rs RB:Bool)(many:Nat):Int:=
 if kz t≠0 then kz t else if ¬gv t.flags then 6 else match named with
 |some k=>qx t k.asked
 |none=>match KI with
  |none=>23
  |some k=>
   if ¬has k.move.flags 2 then 24 else if c7 t k.move then 25 else if 1<k.fate then 25+k.fate else if iO t k.move then 26
   else if has t.flags 4/\Rs=true then 30 else if has t.flags 4/\RB=true then 31 else if 96<=many then 35 else 0
def bU(t:Move):Int:=if has t.flags 4 then 2 else 3
def jO(t p:Move):Move:={t with aF:=p.aF,ar:=p.ar,aB:=bM t p,aG:=p.aG,code:=p.code}
def Model.cL(m:Model)(i:Nat)(fate:Int):Model:={m with kept:=m.kept.modify i λk=>{k with fate:=fate}}
def Model.lW(m:Model)(t:Move):Int×Model:=
 match m.name t.pending with
 |none=>(kK t (m.named t.id) none false false m.kept.length,m)
 |some i=>match m.kept[i]? with
  |none=>(kK t (m.named t.id) none false false m.kept.length,m)
  |some k=>
   let r:=kK t (m.named t.id) (some k) (m.closed k.move.aF i) (m.closed k.move.ar i) m.kept.length
   if r≠0 then(r,m) else(0,(m.cL i (bU t)).ka t (jO t k.move) 0)
def jq(clock:Int)(k:Kept):Prop:=k.fate=1/\0<k.move.timeout/\k.move.born+k.move.timeout<=clock
instance(clock:Int)(k:Kept):Decidable (jq clock k):=by unfold jq;infer_instance
def Model.time(m:Model)(now:Int):Model:=
 let clock:=if m.clock<now/\now<=1099511627776 then now else m.clock
 {m with clock:=clock,kept:=m.kept.map λk=>if jq clock k then{k with fate:=4} else k}
def Model.nW(m:Model)(t:Move):Int×Model:=if kz t=0/\gv t.flags then m.lW t else m.move t
def ax.find(b:ax)(id:Nat):Option aP:=b.ag.find? λa=>a.id=id
def ax.aD(b:ax)(a:aP):ax:={b with ag:=b.ag.map λx=>if x.id=a.id then{a with ae:=x.ae} else x}
def ax.ka(b:ax)(asked t:Move)(fate:Int):ax:=
 {b with ae:=b.ae+1,kept:=b.kept++[⟨asked,{t with ae:=b.ae+1,born:=b.clock},fate⟩]}
def ax.fate(b:ax)(id:Nat)(fate:Int):ax:={b with kept:=b.kept.map λk=>if k.move.id=id/\k.fate=1 then{k with fate:=fate} else k}
def ax.make(b:ax)(a:aP):Int×ax:=
 if qE a≠0 then(qE a,b) else match b.find a.id with
 |some x=>(ru a x,b)
 |none=>if 32<=b.ag.length then(35,b) else(0,{b with ae:=b.ae+1,ag:=b.ag++[{a with ae:=b.ae+1,flags:=a.flags/2* 2}]})
def close(a:aP)(yes:Prop)[Decidable yes]:aP:=if yes then{a with flags:=a.flags%8+8} else a
def open_(a:aP)(yes:Prop)[Decidable yes]:aP:=if yes then{a with flags:=a.flags%8} else a
def ax.named(b:ax)(id:Nat):Option Kept:=b.kept.find? λk=>k.move.id=id
def ax.yM(b:ax)(t:Move)(n:Nat):ax:=
 match b.find t.aF,b.find t.ar with
 |some d,some c=>((b.aD (close (more d true n (decide (has t.flags 2))).1 (has t.flags 64))).aD (close (more c false n (decide (has t.flags 2))).1 (has t.flags 128))).ka t {t with aB:=n} (waits t)
 |_,_=>b
def ax.move(b:ax)(t:Move):Int×ax:=
 let r:=gM t (b.named t.id) (b.find t.aF) (b.find t.ar) b.kept.length
 if r.1≠0 then(r.1,b) else(0,b.yM t r.2)
def vA(d:aP)(p:Move)(n:Nat)(fate:Int):aP:=if fate=2 then{d with dp:=d.dp-p.aB,dq:=d.dq+n} else open_ {d with dp:=d.dp-p.aB} (has p.flags 64)
def wB(c:aP)(p:Move)(n:Nat)(fate:Int):aP:=if fate=2 then{c with cp:=c.cp-p.aB,cq:=c.cq+n} else open_ {c with cp:=c.cp-p.aB} (has p.flags 128)
def ax.release(b:ax)(p:Move)(n:Nat)(fate:Int):ax:=
 match b.find p.aF,b.find p.ar with
 |some d,some c=>((b.aD (vA d p n fate)).aD (wB c p n fate)).fate p.id fate
 |_,_=>b
def ax.iY(b:ax)(id:Nat)(by_:Prop)[Decidable by_]:Bool:=match b.find id with|some d=>decide (8<=d.flags/\ ¬by_)|none=>false
def ax.lW(b:ax)(t:Move):Int×ax:=
 match b.named t.pending with
 |none=>(kK t (b.named t.id) none false false b.kept.length,b)
 |some k=>
  let r:=kK t (b.named t.id) (some k) (b.iY k.move.aF (has k.move.flags 64)) (b.iY k.move.ar (has k.move.flags 128)) b.kept.length
  if r≠0 then(r,b) else(0,(b.release k.move (bM t k.move) (bU t)).ka t (jO t k.move) 0)
def ax.nW(b:ax)(t:Move):Int×ax:=if kz t=0/\gv t.flags then b.lW t else b.move t
end Go.Md
namespace Go.Up
open Go.Sep Go.Den Go.RowKit Go.Prog Go.Md
section
variable {W:World} {L:LH} {K:VK} {a:aP} {n m:Nat} {p:Bool}
def TH{a b:Nat}:(if a+b<aK then a+b else aK-1)<aK:=by unfold aK;split<;>omega
def IV(G:pn W)(hn:n<aK)(hm:m<aK)(h:T W L (K (.agg ⟨nm (if n+m<aK then n+m else aK-1)⟩))):T W L (fq (nm n) (nm m) K):=by
 unfold fq
 repeat' first|apply ws;intros|apply wb|with_reducible first|refine zi hn hm ?_|refine IZ ⟨tQ _,G.QC⟩ ?_|refine bE (λh1=>?_) (λh1=>?_)|fail
 all_goals (refine T.fin (T.dp h) ?_;congr 3;all_goals try simp only[bz] at *)
 ·rw[if_neg (by omega)]
 ·rw[if_pos h1,if_pos h1]
def EO(G:pn W)(ha:vf a)(h:T W L (K (.agg ⟨nm (gg a p)⟩))):T W L (bR (ak a) p K):=by
 obtain⟨-,d1,d2,c1,c2,-,-,-,-⟩:=ha;unfold bR;have k1:∀x y z:Nat,x<aK->y<aK->z<aK->(if x<(if y+z<aK then y+z else aK-1) then 0 else x-(if y+z<aK then y+z else aK-1))=x-(y+z):=λx y z hx hy hz=>by
  by_cases hh:y+z<aK
  ·rw[if_pos hh];split<;>omega
  ·rw[if_neg hh];split<;>omega
 have e1:p=true->gg a p=a.cq-(a.dp+a.dq):=λe=>by rw[e];rfl
 have e2:p=false->gg a p=a.dq-(a.cp+a.cq):=λe=>by rw[e];rfl
 repeat' first|apply ws;intros|apply wb|with_reducible first|refine IV G d1 d2 ?_|refine IV G c1 c2 ?_|refine bE (λh1=>?_) (λh1=>?_)|fail
 all_goals simp only[bR.j1,bR.j2,bR.j3,bR.j4,bR.j5,bR.j6]
 all_goals repeat' first|apply ws;intros|apply wb|with_reducible refine ON (by assumption) TH ?_|fail
 all_goals (refine T.fin (T.dp h) ?_;first|rw[e1 (by assumption),k1 _ _ _ (by assumption) (by assumption) (by assumption)]|rw[e2 (by assumption),k1 _ _ _ (by assumption) (by assumption) (by assumption)])
def Bn(ha:vf a):gg a p<aK:=by
 have:=ha.dq;have:=ha.cq;unfold gg;split<;>omega
def MT(x y z:Nat):yD 0 [x,y,z]=if x+y+z<aK then some (x+y+z) else none:=by
 simp only[yD,adW]
 repeat' split
 all_goals first|rfl|omega
def R3(G:pn W)(ha:vf a)(hn:n<aK)(hf:0<=a.flags/\a.flags<256)(h:T W L (K (.tuple ⟨[.agg ⟨ak (more a true n p).1⟩,.i (more a true n p).2]⟩))):T W L (jR (ak a) (nm n) p K):=by
 unfold jR;apply ws;intros;rename_i r4;refine Ta (l:=[a.dp,a.dq,n]) (by simp;exact⟨ha.dp,ha.dq,hn⟩) (by show 3<1000;decide) ?_;rw[MT];apply ws;intros;unfold more at h;refine bE (λh1=>?_) (λh1=>?_)
 ·have hh: ¬a.dp+a.dq+n<aK:=λhh=>by rw[if_pos hh] at h1;cases h1
  rw[if_pos rfl,if_pos (by omega)] at h;apply ws;intros;exact T.dp h
 have hh:a.dp+a.dq+n<aK:=by
  by_cases hh:a.dp+a.dq+n<aK
  ·exact hh
  ·rw[if_neg hh] at h1;cases h1
 rw[if_pos rfl,if_neg (by omega)] at h;have j1:∀r5 r4 r3 r2 r1:Nat,∀c4 c5:LV,T W (Sep.pt r5 c5::Sep.pt r4 c4::Sep.pt r3 (ak zA)::Sep.pt r2 (nm n)::Sep.pt r1 (ak a)::L) (jR.j1 K r1 r3 p r2 (decide (has a.flags 2/\gg a true<n))):=λr5 r4 r3 r2 r1 c4 c5=>by
  unfold jR.j1;refine dP (λh1=>?_) (λh1=>?_)
  ·rw[if_pos (h1)] at h;apply ws;intros;exact T.dp h
  rw[if_neg (h1)] at h;refine bE (λh1=>?_) (λh1=>?_)
  ·rw[if_pos h1] at h;have hx:a.dp+n<aK:=by omega
   repeat' first|apply ws;intros|apply wb|with_reducible refine zi ha.dp hn ?_|fail
   rw[if_pos hx];exact T.dp h
  ·rw[if_neg (by rw[h1];decide)] at h;have hx:a.dq+n<aK:=by omega
   repeat' first|apply ws;intros|apply wb|with_reducible refine zi ha.dq hn ?_|fail
   rw[if_pos hx];exact T.dp h
 apply ws;intros;refine bE (λh1=>?_) (λh1=>?_)
 ·have h2:has a.flags 2:=by
   have:=bne_iff_ne.1 h1;rw[ne_eq,GR hf.1 hf.2,ad6] at this;exact this
  repeat' first|apply ws;intros|apply wb|with_reducible first|refine EO G ha ?_|refine yw ?_|fail
  have e:decide (gg a true<n)=decide (has a.flags 2/\gg a true<n):=by simp[h2]
  rw[e];exact j1 _ _ _ _ _ _ _
 ·have h2: ¬has a.flags 2:=(GR hf.1 hf.2).1 (bne_eq_false_iff_eq.1 h1);have e:false=decide (has a.flags 2/\gg a true<n):=by simp[h2]
  rw[e];exact j1 _ _ _ _ _ _ _
def Pa(G:pn W)(ha:vf a)(hn:n<aK)(hf:0<=a.flags/\a.flags<256)(h:T W L (K (.tuple ⟨[.agg ⟨ak (more a false n p).1⟩,.i (more a false n p).2]⟩))):T W L (iR (ak a) (nm n) p K):=by
 unfold iR;apply ws;intros;rename_i r4;refine Ta (l:=[a.cp,a.cq,n]) (by simp;exact⟨ha.cp,ha.cq,hn⟩) (by show 3<1000;decide) ?_;rw[MT];apply ws;intros;unfold more at h;refine bE (λh1=>?_) (λh1=>?_)
 ·have hh: ¬a.cp+a.cq+n<aK:=λhh=>by rw[if_pos hh] at h1;cases h1
  rw[if_neg (by decide),if_pos (by omega)] at h;apply ws;intros;exact T.dp h
 have hh:a.cp+a.cq+n<aK:=by
  by_cases hh:a.cp+a.cq+n<aK
  ·exact hh
  ·rw[if_neg hh] at h1;cases h1
 rw[if_neg (by decide),if_neg (by omega)] at h;have j1:∀r5 r4 r3 r2 r1:Nat,∀c4 c5:LV,T W (Sep.pt r5 c5::Sep.pt r4 c4::Sep.pt r3 (ak zA)::Sep.pt r2 (nm n)::Sep.pt r1 (ak a)::L) (iR.j1 K r1 r3 p r2 (decide (has a.flags 4/\gg a false<n))):=λr5 r4 r3 r2 r1 c4 c5=>by
  unfold iR.j1;refine dP (λh1=>?_) (λh1=>?_)
  ·rw[if_pos (h1)] at h;apply ws;intros;exact T.dp h
  rw[if_neg (h1)] at h;refine bE (λh1=>?_) (λh1=>?_)
  ·rw[if_pos h1] at h;have hx:a.cp+n<aK:=by omega
   repeat' first|apply ws;intros|apply wb|with_reducible refine zi ha.cp hn ?_|fail
   rw[if_pos hx];exact T.dp h
  ·rw[if_neg (by rw[h1];decide)] at h;have hx:a.cq+n<aK:=by omega
   repeat' first|apply ws;intros|apply wb|with_reducible refine zi ha.cq hn ?_|fail
   rw[if_pos hx];exact T.dp h
 apply ws;intros;refine bE (λh1=>?_) (λh1=>?_)
 ·have h2:has a.flags 4:=by
   have:=bne_iff_ne.1 h1;rw[ne_eq,GQ hf.1 hf.2,ad6] at this;exact this
  repeat' first|apply ws;intros|apply wb|with_reducible first|refine EO G ha ?_|refine yw ?_|fail
  have e:decide (gg a false<n)=decide (has a.flags 4/\gg a false<n):=by simp[h2]
  rw[e];exact j1 _ _ _ _ _ _ _
 ·have h2: ¬has a.flags 4:=(GQ hf.1 hf.2).1 (bne_eq_false_iff_eq.1 h1);have e:false=decide (has a.flags 4/\gg a false<n):=by simp[h2]
  rw[e];exact j1 _ _ _ _ _ _ _
end
end Go.Up
namespace Go.Up
open Go.Sep Go.Den Go.RowKit Go.Prog Go.Md Go.bC
section
variable {W:World} {L:LH} {K:VK} {X:WK} {α:Type} {r n c e o j:Nat} {l:List α} {x y:α} {g:α->LV} {f:HP->LH}
def dx{K:LV->WK}[i:oQ (some ⟨r,0,none⟩) n c L e (l.flatMap g) f](hf:∀x,(g x).length=e)(hx:l[o]?=some x)(h:T W L (K (g x))):T W L (ah ⟨r,o* e,none⟩ e K):=λw hs=>by
 obtain⟨k,hk,_⟩:=i.at_;exact D7 hs hk (hf x) (nI hf l o x hx) (h w hs)
def At{v:Value}[i:oQ (some ⟨r,0,none⟩) n c L e (l.flatMap g) f](hf:∀x,(g x).length=e)(hx:l[o]?=some x)(hv:(g x)[j]?=some v)(h:T W L (K v)):T W L (ld ⟨r,o* e+j,none⟩ K):=λw hs=>by
 obtain⟨k,hk,_⟩:=i.at_;exact ya hs hk (nI hf l o x hx j v hv) (h w hs)
def vo{v:Value}[i:oQ (some ⟨r,0,none⟩) n c L e (l.flatMap g) f](hf:∀x,(g x).length=e)(hx:l[o]?=some x)(hv:(g x)[0]?=some v)(h:T W L (K v)):T W L (ld ⟨r,o* e,none⟩ K):=At (j:=0) hf hx hv h
def El(hf:∀x,(g x).length=e)(ho:o<l.length):o* e+e<=(l.flatMap g).length:=by
 rw[xa hf,<-Nat.succ_mul];exact aeE e ho
def mS[i:oQ (some ⟨r,0,none⟩) n c L e (l.flatMap g) f](hf:∀x,(g x).length=e)(ho:o<l.length)(h1:∀v∈g x,v.oneCell'=true)
 (h:T W (f (own (some ⟨r,0,none⟩) n c e ((l.set o x).flatMap g))) X):T W L (gj ⟨r,o* e,none⟩ (g x) X):=λw hs=>by
 obtain⟨k,hk,e1⟩:=i.at_;refine P0 hs hk (by rw[hf];exact El hf ho) h1 λw' h'=>h w' ?_;rw[e1,<-Bs hf l o x ho];exact h'
def yg{v:Value}(hf:∀x,(g x).length=e)(hx:l[o]?=some x)(hy:g y=(g x).set j v)(hj:j<e):(l.flatMap g).set (o* e+j) v=(l.set o y).flatMap g:=by
 have ho:=(adU.1 hx).1;have hle:=El hf ho;rw[<-Bs hf l o y ho];apply afb;intro i;rw[wG (by rw[hf];exact hle),aeo];by_cases h1:i<o* e
 ·rw[if_pos h1,if_neg (by omega)]
 ·rw[if_neg h1];by_cases h2:i<o* e+(g y).length
  ·rw[if_pos h2,hy,aeo];rw[hf] at h2;obtain⟨m,rfl⟩:∃m,i=o* e+m:=⟨i-o* e,by omega⟩;rw[Nat.add_sub_cancel_left];by_cases h3:j=m
   ·subst h3;rw[if_pos rfl,if_pos rfl,if_pos (by omega),if_pos (by rw[hf];omega)]
   ·rw[if_neg (by omega),if_neg h3];have hm:m<(g x).length:=by rw[hf];omega
    rw[adS hm];exact nI hf l o x hx m _ (adS hm)
  ·rw[if_neg h2,if_neg (by rw[hf] at h2;omega)]
def Aq{v:Value}[i:oQ (some ⟨r,0,none⟩) n c L e (l.flatMap g) f](hf:∀x,(g x).length=e)(hx:l[o]?=some x)(hy:g y=(g x).set j v)(hj:j<e)(h1:v.oneCell'=true)
 (h:T W (f (own (some ⟨r,0,none⟩) n c e ((l.set o y).flatMap g))) X):T W L (st ⟨r,o* e+j,none⟩ v X):=λw hs=>by
 obtain⟨k,hk,e1⟩:=i.at_;have ho:=(adU.1 hx).1;have hle:=El (g:=g) hf ho;refine DM hs hk (by omega) h1 λw' h'=>h w' ?_;rw[e1,<-yg hf hx hy hj];exact h'
def DH{bytes:Nat}{zero:LV}{len cap:Int}{K:OA->Nat->Nat->WK}(h0:0<=len/\len<=cap/\cap<=9223372036854775807/\cap* bytes<=281474976710656)
 (hK:∀r,T W (own (some ⟨r,0,none⟩) len.toNat cap.toNat zero.length (Builtin.zeroCells ⟨zero⟩ len.toNat).toList::L) (K (some ⟨r,0,none⟩) len.toNat cap.toNat)):T W L (FU bytes zero len cap K):=λw hs=>
 Ny hs h0 λr w' h'=>hK r w' h'
def nw{z:α}{zs:LV}(hz:g z=zs)(m:Nat):(Builtin.zeroCells ⟨zs⟩ m).toList=(ad8 m z).flatMap g:=by
 subst hz
 induction m with
 |zero=>simp[Builtin.zeroCells]
 |succ m ih=>
  rw[List.replicate_succ',aeP,<-ih];simp only[Builtin.zeroCells,Array.toList_map,Array.toList_range,aeG,List.flatMap_nil,aed];rw[afg,Nat.one_mul,List.range_add,aep,aft]
  congr 1
  show(afo (g z).length).map _=g z;apply afb;intro j;rw[aeF];by_cases hj:j<(g z).length
  ·rw[afk hj,adS hj];show some _=some _
   congr 1
   simp only[Function.comp];show(⟨g z⟩:Array Value)[(m* (g z).length+j)%(g z).length]! =_;rw[afr,Nat.mul_add_mod,aeB hj];simp[hj]
  ·rw[aeT (by simpa using hj),aeT (by omega)];rfl
end
structure Cell where
 key:Nat
 at_:Int
 kind:Int
def kf(c:Cell):LV:=nm c.key++[.i c.at_,.int .u8 c.kind]
def oC(c:Cell):(kf c).length=4:=rfl
instance{c:Cell}:Ln (kf c) 4:=⟨rfl⟩
instance{c:Cell}:Gt (kf c) 3 (.int .u8 c.kind):=⟨rfl⟩
def uK(c:Cell):∀v∈kf c,v.oneCell'=true:=kT (kx _) λv h=>by simp at h;rcases h with rfl|rfl<;>rfl
def I9(n1 n2:Int):Int:=IntKind.u64.wrap ((bB .u64 .xor (bB .u64 .xor n1 (shl .u64 n2 31)) (shr .u64 n2 33))* 11400714819323198485)
def I8(x:Int):Int:=bB .u64 .xor x (shr .u64 x 29)
def spread(k:Nat):Int:=I8 (I9 ((k%18446744073709551616:Nat):Int) ((k/18446744073709551616:Nat):Int))
def Pow(N:Nat):Prop:=∃j,3<=j/\j<=20/\N=2^j
def Pow.ge{N:Nat}(h:Pow N):8<=N:=by
 obtain⟨j,h1,h2,rfl⟩:=h;exact aeJ (by decide) h1 (n:=2)
def Pow.le{N:Nat}(h:Pow N):N<=1048576:=by
 obtain⟨j,h1,h2,rfl⟩:=h;exact aeJ (by decide) h2 (n:=2)
def GW{N x:Nat}(h:Pow N)(hx:x<18446744073709551616):bB .u64 .and (x:Int) ((N:Int) -1)=((x%N:Nat):Int):=by
 have h1:=h.ge;have h2:=h.le;obtain⟨j,-,-,rfl⟩:=h;have e:((2^j:Nat):Int) -1=((2^j-1:Nat):Int):=by omega
 rw[e];unfold bB;show IntKind.u64.wrap (((BitVec.ofInt 64 (x:Int)&&&BitVec.ofInt 64 ((2^j-1:Nat):Int)).toNat:Nat):Int)=_;rw[BitVec.toNat_and];have t1:(BitVec.ofInt 64 (x:Int)).toNat=x:=by simp only[BitVec.toNat_ofInt];omega
 have t2:(BitVec.ofInt 64 ((2^j-1:Nat):Int)).toNat=2^j-1:=by simp only[BitVec.toNat_ofInt];omega
 rw[t1,t2,Nat.and_two_pow_sub_one_eq_mod];have:x%2^j<=x:=Nat.mod_le _ _;exact og (by omega)
def NG(op:BinOp)(x y:Int)(h:op=.and\/op=.or\/op=.xor\/op=.andNot):0<=bB .u64 op x y/\bB .u64 op x y<18446744073709551616:=by
 rcases h with h|h|h|h<;>subst h<;>(unfold bB;dsimp only;simp only[IntKind.wrap,IntKind.bits,IntKind.signed];simp;omega)
def hh(N k:Nat):Nat:=(spread k).toNat%N
def XM{N:Nat}(h:0<N)(k:Nat):hh N k<N:=Nat.mod_lt _ h
def Hw(k:Nat):0<=spread k/\spread k<18446744073709551616:=by
 unfold spread;generalize I9 _ _=x;unfold I8;generalize shr .u64 x 29=y;exact NG .xor x y (by simp)
def Hx{N k:Nat}(h:Pow N):bB .u64 .and (spread k) ((N:Int) -1)=((hh N k:Nat):Int):=by
 obtain⟨h1,h2⟩:=Hw k;unfold hh;generalize spread k=x at h1 h2;obtain⟨n,rfl⟩:∃n:Nat,x=n:=⟨x.toNat,by omega⟩;rw[adT];exact GW h (by omega)
def NF(cs:List Cell)(i:Nat):Prop:=∃c:Cell,cs[i]?=some c/\c.kind≠0
structure TI(cs:List Cell)(m:Nat->Option Int)(u lf:Nat):Prop where
 pow:Pow cs.length
 kinds:∀c∈cs,c.kind=0\/c.kind=1\/c.kind=2
 used:cs.countP (λc:Cell=>c.kind=1)=u
 left:cs.countP (λc:Cell=>c.kind=2)=lf
 room:4* (u+lf)<=3* cs.length
 run:∀(i:Nat)(c:Cell),cs[i]?=some c->c.kind=1->∃d,d<cs.length/\i=(hh cs.length c.key+d)%cs.length/\∀j,j<d->NF cs ((hh cs.length c.key+j)%cs.length)
 is:∀(i:Nat)(c:Cell),cs[i]?=some c->c.kind=1->m c.key=some c.at_
 has:∀k v,m k=some v->∃(i:Nat)(c:Cell),cs[i]?=some c/\c.kind=1/\c.key=k
 one:∀(i j:Nat)(c d:Cell),cs[i]?=some c->cs[j]?=some d->c.kind=1->d.kind=1->c.key=d.key->i=j
def On:∀(cs:List Cell),(∀c∈cs,c.kind=0\/c.kind=1\/c.kind=2)->cs.countP (λc:Cell=>c.kind=0)+cs.countP (λc:Cell=>c.kind=1)+cs.countP (λc:Cell=>c.kind=2)=cs.length
 |[],_=>rfl
 |c::cs,h=>by
  have ih:=On cs λd hd=>h d (by simp[hd]);simp only[List.countP_cons,ad'];rcases h c (by simp) with e|e|e<;>simp[e]<;>omega
def countP_set{p:Cell->Bool}:∀(cs:List Cell)(i:Nat)(c x:Cell),cs[i]?=some c->(cs.set i x).countP p+(if p c then 1 else 0)=cs.countP p+(if p x then 1 else 0)
 |[],i,c,x,h=>by simp at h
 |d::cs,0,c,x,h=>by
  simp at h;subst h;simp only[List.set_cons_zero,List.countP_cons];omega
 |d::cs,i+1,c,x,h=>by
  have ih:=countP_set (p:=p) cs i c x (by simpa using h);simp only[ae7,List.countP_cons];omega
def TI.free{cs:List Cell}{m:Nat->Option Int}{u lf:Nat}(h:TI cs m u lf)(s:Nat)(ha:∀j,j<cs.length->NF cs ((s+j)%cs.length)):False:=by
 have h8:=h.pow.ge;have hc:=On cs h.kinds;rw[h.used,h.left] at hc;have h0:0<cs.countP (λc:Cell=>c.kind=0):=by have:=h.room;omega
 rw[List.countP_pos_iff] at h0;obtain⟨c,hm,hk⟩:=h0;obtain⟨i,hi⟩:=afa hm;have aZ:=(adU.1 hi).1;have e:(s+(i+cs.length-s%cs.length)%cs.length)%cs.length=i:=by
  have h1:s%cs.length<cs.length:=Nat.mod_lt _ (by omega);rw[Nat.add_mod_mod,Nat.add_mod,];have:s+(i+cs.length-s%cs.length)=cs.length* (s/cs.length+1)+i:=by
   have:=Nat.div_add_mod s cs.length;rw[Nat.mul_add];omega
  rw[<-Nat.add_mod,this,Nat.mul_add_mod,aeB aZ]
 obtain⟨d,hd,hn⟩:=ha ((i+cs.length-s%cs.length)%cs.length) (Nat.mod_lt _ (by omega));rw[e,hi] at hd;cases hd
 simp at hk;exact hn hk
structure FR(cs:List Cell)(k p:Nat):Prop where
 place:∃(c:Cell)(d:Nat),cs[p]?=some c/\c.kind≠1/\d<cs.length/\p=(hh cs.length k+d)%cs.length/\∀j,j<d->NF cs ((hh cs.length k+j)%cs.length)
 none_:∀(i:Nat)(c:Cell),cs[i]?=some c->c.kind=1->c.key≠k
def sg(m:Nat->Option Int)(k:Nat)(v:Option Int):Nat->Option Int:=λj=>if j=k then v else m j
def NF.set{cs:List Cell}{i p:Nat}{x:Cell}(h:NF cs i)(hx:x.kind≠0):NF (cs.set p x) i:=by
 obtain⟨c,hc,hk⟩:=h;have aZ:=(adU.1 hc).1;unfold NF;rw[aeo];by_cases e:p=i
 ·rw[if_pos e,if_pos (by omega)];exact⟨x,rfl,hx⟩
 ·rw[if_neg e];exact⟨c,hc,hk⟩
def TI.yr{cs:List Cell}{m:Nat->Option Int}{u lf k:Nat}(h:TI cs m u lf)(hn:∀(i:Nat)(c:Cell),cs[i]?=some c->c.kind=1->c.key≠k):m k=none:=by
 cases hm:m k with
 |none=>rfl
 |some v=>
  obtain⟨i,c,h1,h2,h3⟩:=h.has k v hm;exact absurd h3 (hn i c h1 h2)
def qO{cs:List Cell}{p i:Nat}{x c:Cell}(h:(cs.set p x)[i]?=some c):(i=p/\c=x/\p<cs.length)\/(i≠p/\cs[i]?=some c):=by
 rw[aeo] at h;by_cases e:p=i
 ·rw[if_pos e] at h;by_cases hl:p<cs.length
  ·rw[if_pos (by omega)] at h;cases h;exact .inl ⟨e.symm,rfl,hl⟩
  ·rw[if_neg (by omega)] at h;cases h
 ·rw[if_neg e] at h;exact .inr ⟨λh=>e h.symm,h⟩
def TI.put{cs:List Cell}{m:Nat->Option Int}{u lf k p:Nat}{v:Int}{c:Cell}(h:TI cs m u lf)(f:FR cs k p)(hp:cs[p]?=some c)(hr:4* (u+lf+1)<=3* cs.length):
 TI (cs.set p ⟨k,v,1⟩) (sg m k (some v)) (u+1) (if c.kind=2 then lf-1 else lf):=by
 obtain⟨⟨c',d,Gl,hk,hd,hpd,hj⟩,kH⟩:=f;rw[hp] at Gl;cases Gl
 have aZ:=(adU.1 hp).1;have hl:(cs.set p ⟨k,v,1⟩).length=cs.length:=aeX;have c1:=countP_set (p:=λc:Cell=>c.kind=1) cs p c ⟨k,v,1⟩ hp;have c2:=countP_set (p:=λc:Cell=>c.kind=2) cs p c ⟨k,v,1⟩ hp;have mg:c∈cs:=aek hp;have hnk:=h.yr kH;rw[h.used] at c1;rw[h.left] at c2;refine⟨by rw[hl];exact h.pow,?_,?_,?_,?_,?_,?_,?_,?_⟩
 ·intro x hx;rcases aeI hx with hx|hx
  ·exact h.kinds x hx
  ·subst hx;exact .inr (.inl rfl)
 ·simp[hk] at c1;simpa using c1
 ·by_cases e:c.kind=2
  ·rw[if_pos e];simp[e] at c2;simpa using by omega
  ·rw[if_neg e];simp[e] at c2;simpa using c2
 ·rw[hl];split<;>omega
 ·rw[hl];intro i x hi hx;rcases qO hi with⟨rfl,rfl,_⟩|⟨gU,hi⟩
  ·exact⟨d,hd,hpd,λj h1=>(hj j h1).set (show(1:Int)≠0 by decide)⟩
  ·obtain⟨d',h1,h2,h3⟩:=h.run i x hi hx;exact⟨d',h1,h2,λj h4=>(h3 j h4).set (show(1:Int)≠0 by decide)⟩
 ·intro i x hi hx;rcases qO hi with⟨rfl,rfl,_⟩|⟨gU,hi⟩
  ·simp[sg]
  ·unfold sg;rw[if_neg (kH i x hi hx)];exact h.is i x hi hx
 ·intro k' v' ye;unfold sg at ye;by_cases e:k'=k
  ·subst e;exact⟨p,⟨k',v,1⟩,by rw[aeo,if_pos rfl,if_pos aZ],rfl,rfl⟩
  ·rw[if_neg e] at ye;obtain⟨i,x,h1,h2,h3⟩:=h.has k' v' ye;refine⟨i,x,?_,h2,h3⟩;rw[aeo,if_neg]
   ·exact h1
   ·intro e2;subst e2;rw[hp] at h1;cases h1;exact hk h2
 ·intro i j x y hi Hg hx hy he;rcases qO hi with⟨rfl,rfl,_⟩|⟨gU,hi⟩<;>rcases qO Hg with⟨rfl,rfl,_⟩|⟨aaz,Hg⟩
  ·rfl
  ·exact absurd he.symm (kH j y Hg hy)
  ·exact absurd he (kH i x (by assumption) hx)
  ·exact h.one i j x y (by assumption) (by assumption) hx hy he
def TI.drop{cs:List Cell}{m:Nat->Option Int}{u lf p:Nat}{c:Cell}(h:TI cs m u lf)(hp:cs[p]?=some c)(hk:c.kind=1):
 TI (cs.set p ⟨0,0,2⟩) (sg m c.key none) (u-1) (lf+1)/\1<=u:=by
 have aZ:=(adU.1 hp).1;have hl:(cs.set p ⟨0,0,2⟩).length=cs.length:=aeX;have c1:=countP_set (p:=λc:Cell=>c.kind=1) cs p c ⟨0,0,2⟩ hp;have c2:=countP_set (p:=λc:Cell=>c.kind=2) cs p c ⟨0,0,2⟩ hp;rw[h.used] at c1;rw[h.left] at c2;have hu:1<=u:=by simp[hk] at c1;omega
 refine⟨⟨by rw[hl];exact h.pow,?_,?_,?_,by rw[hl];have:=h.room;omega,?_,?_,?_,?_⟩,hu⟩
 ·intro x hx;rcases aeI hx with hx|hx
  ·exact h.kinds x hx
  ·subst hx;exact .inr (.inr rfl)
 ·simp[hk] at c1;simpa using by omega
 ·simp[hk] at c2;simpa using c2
 ·rw[hl];intro i x hi hx;rcases qO hi with⟨rfl,rfl,_⟩|⟨gU,hi⟩
  ·exact absurd hx (by decide)
  ·obtain⟨d',h1,h2,h3⟩:=h.run i x hi hx;exact⟨d',h1,h2,λj h4=>(h3 j h4).set (by decide)⟩
 ·intro i x hi hx;rcases qO hi with⟨rfl,rfl,_⟩|⟨gU,hi⟩
  ·exact absurd hx (by decide)
  ·have:x.key≠c.key:=λe=>gU (h.one i p x c hi hp hx hk e);unfold sg;rw[if_neg this];exact h.is i x hi hx
 ·intro k' v' ye;unfold sg at ye;by_cases e:k'=c.key
  ·rw[if_pos e] at ye;cases ye
  ·rw[if_neg e] at ye;obtain⟨i,x,h1,h2,h3⟩:=h.has k' v' ye;refine⟨i,x,?_,h2,h3⟩;rw[aeo,if_neg]
   ·exact h1
   ·intro e2;subst e2;rw[hp] at h1;cases h1;exact e h3.symm
 ·intro i j x y hi Hg hx hy he;rcases qO hi with⟨rfl,rfl,_⟩|⟨gU,hi⟩<;>rcases qO Hg with⟨rfl,rfl,_⟩|⟨aaz,Hg⟩
  ·rfl
  ·exact absurd hx (by decide)
  ·exact absurd hy (by decide)
  ·exact h.one i j x y (by assumption) (by assumption) hx hy he
def TI.new{N:Nat}(h:Pow N):TI (ad8 N ⟨0,0,0⟩) (λ_=>none) 0 0:=by
 refine⟨by rw[aeZ];exact h,?_,?_,?_,by omega,?_,?_,?_,?_⟩
 ·intro c hc;rw[List.eq_of_mem_replicate hc];exact .inl rfl
 ·rw[List.countP_replicate];rfl
 ·rw[List.countP_replicate];rfl
 ·intro i c hi hk;have:=List.eq_of_mem_replicate (aek hi);subst this;exact absurd hk (by decide)
 ·intro i c hi hk;have:=List.eq_of_mem_replicate (aek hi);subst this;exact absurd hk (by decide)
 ·intro k v hk;cases hk
 ·intro i j c d hi hj hk;have:=List.eq_of_mem_replicate (aek hi);subst this;exact absurd hk (by decide)
def Seen(cs:List Cell)(k d:Nat):Prop:=∀j,j<d->∃c:Cell,cs[(hh cs.length k+j)%cs.length]?=some c/\c.kind≠0/\ ¬(c.kind=1/\c.key=k)
def Seen.nf{cs:List Cell}{k d:Nat}(h:Seen cs k d):∀j,j<d->NF cs ((hh cs.length k+j)%cs.length):=λj hj=>by
 obtain⟨c,h1,h2,_⟩:=h j hj;exact⟨c,h1,h2⟩
def Seen.succ{cs:List Cell}{k d:Nat}{c:Cell}(h:Seen cs k d)(hc:cs[(hh cs.length k+d)%cs.length]?=some c)(h0:c.kind≠0)(h1: ¬(c.kind=1/\c.key=k)):Seen cs k (d+1):=λj hj=>by
 by_cases e:j=d
 ·subst e;exact⟨c,hc,h0,h1⟩
 ·exact h j (by omega)
def Seen.yr{cs:List Cell}{m:Nat->Option Int}{u lf k d:Nat}{c:Cell}(ht:TI cs m u lf)(h:Seen cs k d)(hd:d<cs.length)(hc:cs[(hh cs.length k+d)%cs.length]?=some c)(h0:c.kind=0):
 ∀(i:Nat)(c:Cell),cs[i]?=some c->c.kind=1->c.key≠k:=by
 intro i x hi hx he;obtain⟨d',h1,h2,h3⟩:=ht.run i x hi hx;rw[he] at h2 h3;by_cases e1:d'<d
 ·obtain⟨y,g1,g2,g3⟩:=h d' e1;rw[<-h2,hi] at g1;cases g1;exact g3 ⟨hx,he⟩
 ·by_cases e2:d<d'
  ·obtain⟨y,g1,g2⟩:=h3 d e2;rw[hc] at g1;cases g1;exact g2 h0
  ·have:d=d':=by omega
   subst this;rw[<-h2,hi] at hc;cases hc;rw[h0] at hx;cases hx
section
variable {y z:Cell} {x1 x2 x3 x4:Value}
instance:Wr [x1,x2,x3,x4] 0 (kf y) (kf y):=⟨rfl,adY _,uK y⟩
instance:Sub (kf y) 0 2 (nm y.key):=⟨uP rfl rfl⟩
instance:Sub (kf y) 0 4 (kf y):=⟨rfl,λj v h=>by rw[adW];exact h⟩
end
def kY(t:Nat)(x:(Nat->Option Int)×Nat):HP:=
 SY λq:OA×Nat×List Cell×Nat=>LK (TI q.2.2.1 x.1 x.2 q.2.2.2) (sep (Sep.pt t [.l q.1 q.2.2.1.length q.2.1,.i (x.2:Int),.i (q.2.2.2:Int)]) (own q.1 q.2.2.1.length q.2.1 4 (q.2.2.1.flatMap kf)))
section
variable {W:World} {L:LH} {K:VK} {X:WK} {t:Nat} {x:(Nat->Option Int)×Nat} {f:(Nat->Option Int)×Nat->LH}
def MC[i:Lc (kY t) L x f](h:∀b c cs lf R,TI cs x.1 x.2 lf->(∀b' c' rq u' G' m' Y,TI rq m' u' G'->T W (f (m',u')) Y->T W (Sep.pt t [.l b' rq.length c',.i (u':Int),.i (G':Int)]::own b' rq.length c' 4 (rq.flatMap kf)::R) Y)->
 T W (Sep.pt t [.l b cs.length c,.i (x.2:Int),.i (lf:Int)]::own b cs.length c 4 (cs.flatMap kf)::R) X):T W L X:=
 ME (P:=kY t) λR hc w hs=>by
  obtain⟨⟨b,c,cs,lf⟩,hs⟩:=hs.ex;obtain⟨ht,hs⟩:=hs.and;refine h b c cs lf R ht (λb' c' rq u' G' m' Y F6 hy w h'=>hc (m',u') Y hy w ?_) w hs.split;exact St.nJ (b',c',rq,G') (St.and_intro F6 (St.join h'))
def T.aai{A B C:HP}{R:LH}(h:T W (A::B::C::R) X):T W (C::A::B::R) X:=T.perm h (ae4 (l₁:=[A,B])).symm
def MX{k:Nat}(h:T W L (K (.u (spread k)))):T W L (pH (nm k) K):=by
 unfold pH
 repeat' first|apply ws;intros|apply wb|with_reducible refine cN (by decide) ?_|fail
 refine T.fin (T.dp h) ?_
 rfl
def Tn{N:Nat}(h1:1<=N)(h2:N<=1048576):IntKind.u64.wrap (adP.wrap ((N:Int) -1))=(N:Int) -1:=by
 rw[aw (by omega)];obtain⟨n,hn⟩:∃n:Nat,(N:Int) -1=n:=⟨N-1,by omega⟩;rw[hn];exact og (by omega)
def CJ{N a d:Nat}(ha:a<N)(hd:d<N):((a+d)%N+N-a)%N=d:=by
 by_cases h:a+d<N
 ·rw[aeB h,show a+d+N-a=N+d by omega,Nat.add_mod_left,aeB hd]
 ·have:(a+d)%N=a+d-N:=by rw[Nat.mod_eq_sub_mod (by omega),aeB (by omega)]
  rw[this,show a+d-N+N-a=d by omega,aeB hd]
def MW{N a d:Nat}(hN:Pow N):bB .u64 .and (IntKind.u64.wrap ((((a+d)%N:Nat):Int)+1)) ((N:Int) -1)=(((a+(d+1))%N:Nat):Int):=by
 have h1:=hN.le;have h2:=hN.ge;have h3:(a+d)%N<N:=Nat.mod_lt _ (by omega);rw[show(((a+d)%N:Nat):Int)+1=(((a+d)%N+1:Nat):Int) by omega,og (by omega),GW hN (by omega)]
 congr 1
 rw[Nat.mod_add_mod];rfl
def Em{b:OA}{c u lf k:Nat}{cs:List Cell}{m:Nat->Option Int}{x1 x2:Value}{f:LV->LH}{g:HP->LH}[i:Lc (Sep.pt t) L [.l b cs.length c,x1,x2] f][j:oQ b cs.length c L 4 (cs.flatMap kf) g](ht:TI cs m u lf)
 (h1:∀(i:Nat)(y:Cell),cs[i]?=some y->y.kind=1->y.key=k->T W L (K (.tuple ⟨[.i (i:Int),.bool true]⟩)))
 (h2:∀p:Nat,FR cs k p->T W L (K (.tuple ⟨[.i (p:Int),.bool false]⟩))):T W L (bK (some ⟨t,0,none⟩) (nm k) K):=by
 have hN8:=ht.pow.ge;have hNl:=ht.pow.le;have XL:=XM (N:=cs.length) (by omega) k;unfold bK
 repeat' first|apply ws;intros|apply wb|with_reducible refine MX ?_|fail
 rename_i r1;intro w hs;rw[Tn (by omega) hNl,Hx ht.pow];refine⟨λvs w=>∃(d:Nat)(put:Int),d<cs.length/\Seen cs k d/\(put= -1\/∃(dp:Nat)(z:Cell),dp<d/\put=(((hh cs.length k+dp)%cs.length:Nat):Int)/\cs[(hh cs.length k+dp)%cs.length]?=some z/\z.kind=2)/\
                           vs=[.p (some (ad r1 0)),.i 0,.bool false,.u ((cs.length:Int) -1),.i put,.u (((hh cs.length k+d)%cs.length:Nat):Int)]/\St W w (Sep.pt r1 (nm k)::L),
  λvs _=>match vs with|[_,_,_,_,_,.int _ n]=>cs.length-(n.toNat+cs.length-hh cs.length k)%cs.length|_=>0,
  ⟨0,-1,by omega,λj hj=>by omega,.inl rfl,by rw[aeN,aeB XL],hs⟩,?_⟩
 rintro a1 n1 b1 n2 put n4 w2 ⟨d,adv,hd,F7,K3,e,hs⟩;cases e
 refine T.at ?_ hs;have aZ:(hh cs.length k+d)%cs.length<cs.length:=Nat.mod_lt _ (by omega);have hy:=adS aZ;generalize cs[(hh cs.length k+d)%cs.length]=y at hy;have mg:y∈cs:=aek hy;have ewr:adP.wrap (((hh cs.length k+d)%cs.length:Nat):Int)=(((hh cs.length k+d)%cs.length:Nat):Int):=aw (by omega);apply ws;intros;refine bQ ⟨by omega,by omega⟩ λr hr=>?_;subst hr;rw[adT];refine dx oC hy ?_;have next:∀(r2:Nat)(Nh:Int),y.kind≠0-> ¬(y.kind=1/\y.key=k)->(Nh=put\/Nh=(((hh cs.length k+d)%cs.length:Nat):Int)/\y.kind=2)->
                                                                                                                                                                                                                                                                                                                                                                           T W (Sep.pt r2 (kf y)::Sep.pt r1 (nm k)::L) (λw4=>(∃(d':Nat)(put:Int),d'<cs.length/\Seen cs k d'/\(put= -1\/∃(dp:Nat)(z:Cell),dp<d'/\put=(((hh cs.length k+dp)%cs.length:Nat):Int)/\cs[(hh cs.length k+dp)%cs.length]?=some z/\z.kind=2)/\
                                                                                                                                                                                                                                                                                                                                                                           [Value.pointer (some (ad r1 0)),.i 0,.bool false,.u ((cs.length:Int) -1),.i Nh,.u (((hh cs.length k+(d+1))%cs.length:Nat):Int)]=[.p (some (ad r1 0)),.i 0,.bool false,.u ((cs.length:Int) -1),.i put,.u (((hh cs.length k+d')%cs.length:Nat):Int)]/\St W w4 (Sep.pt r1 (nm k)::L))/\
                                                                                                                                                                                                                                                                                                                                                                           cs.length-((((hh cs.length k+(d+1))%cs.length:Nat):Int).toNat+cs.length-hh cs.length k)%cs.length<cs.length-((((hh cs.length k+d)%cs.length:Nat):Int).toNat+cs.length-hh cs.length k)%cs.length):=by
  intro r2 Nh k0 k1 hp';have NI:=F7.succ hy k0 k1;have SO:d+1<cs.length:=by
   by_cases hc:d+1<cs.length
   ·exact hc
   ·exact absurd (λj hj=>NI.nf j (by omega)) λhh=>ht.free _ hh
  refine T.drop λw3 h3=>⟨⟨d+1,Nh,SO,NI,?_,rfl,h3⟩,?_⟩
  ·rcases hp' with rfl|⟨rfl,h2k⟩
   ·exact K3.imp id λ⟨dp,z,g1,g2,g3,g4⟩=>⟨dp,z,by omega,g2,g3,g4⟩
   ·exact .inr ⟨d,y,by omega,rfl,hy,h2k⟩
  ·rw[adT,adT,CJ XL hd,CJ XL SO];omega
 apply ws;intros;rename_i r2;unfold bK.j1 bK.j2 bK.j3;simp only[MW ht.pow,ewr];refine bE (λg0=>?_) (λg0=>?_)
 ·have k0:y.kind=0:=by simpa using g0
  refine bE (λg1=>?_) (λg1=>?_)
  ·refine T.drop (T.drop (h2 _ ⟨⟨y,d,hy,by omega,hd,rfl,F7.nf⟩,F7.yr ht hd hy k0⟩))
  ·have g2: ¬put<0:=by simpa using g1
   apply ws;intros;refine kq (by simpa using k0) ?_;rcases K3 with rfl|⟨dp,z,q1,rfl,q3,q4⟩
   ·omega
   ·refine T.drop (T.drop (h2 _ ⟨⟨z,dp,q3,by omega,by omega,rfl,λj hj=>F7.nf j (by omega)⟩,F7.yr ht hd hy k0⟩))
 ·have k0:y.kind≠0:=by simpa using g0
  apply ws;intros;refine dV (by simpa using k0) ?_;apply ws;intros;refine bE (λg1=>?_) (λg1=>?_)
  ·have k2:y.kind=2:=by simpa using g1
   refine bE (λg2=>?_) (λg2=>?_)
   ·exact next r2 _ k0 (by omega) (.inr ⟨rfl,k2⟩)
   ·apply ws;intros;refine dV (by rw[k2];rfl) ?_;apply ws;intros;exact next r2 put k0 (by omega) (.inl rfl)
  ·have k1:y.kind=1:=by
    have:=ht.kinds y mg;have:y.kind≠2:=by simpa using g1
    omega
   apply ws;intros;refine kq (by rw[k1];rfl) ?_;apply ws;intros;refine bE (λg2=>?_) (λg2=>?_)
   ·refine T.drop (T.drop (h1 _ y hy k1 (by simpa using g2)))
   ·exact next r2 put k0 (λhh=>by simp[hh.2] at g2) (.inl rfl)
def zg{k:Nat}[i:Lc (kY t) L x f](h:T W L (K (.tuple ⟨[.i ((x.1 k).getD 0),.bool (x.1 k).isSome]⟩))):T W L (dY (some ⟨t,0,none⟩) (nm k) K):=by
 unfold dY;refine qD λr1=>dV rfl ?_;apply ws;intros;refine MC (t:=t) λb c cs lf R ht hc=>?_;have close:=hc b c cs x.2 lf x.1;have hL:f (x.1,x.2)=L:=i.same;rw[<-hL] at h;refine Em ht (λi y hy hk he=>?_) (λp hp=>?_)
 ·apply ws;intros;have aZ:=(adU.1 hy).1;refine bQ ⟨by omega,by omega⟩ λr hr=>?_;subst hr;rw[adT];refine MI ?_;refine At (r:=r) (j:=2) oC hy rfl ?_;apply ws;intros;have e:=ht.is i y hy hk;rw[he] at e;rw[e] at h;exact close _ ht (T.drop h)
 ·apply ws;intros;rw[ht.yr hp.none_] at h;exact close _ ht (T.drop h)
def O'{k:Nat}[i:Lc (kY t) L x f](hu:x.2<=1000)(h:(x.1 k).isSome=true->T W (f (sg x.1 k none,x.2-1)) (K (.bool true)))(h0:x.1 k=none->T W L (K (.bool false))):T W L (ku (some ⟨t,0,none⟩) (nm k) K):=by
 unfold ku;refine qD λr1=>dV rfl ?_;apply ws;intros;refine MC (t:=t) λb c cs lf R ht hc=>?_;have hL:f (x.1,x.2)=L:=i.same;rw[<-hL] at h0;refine Em ht (λi y hy hk he=>?_) (λp hp=>?_)
 ·apply ws;intros;have aZ:=(adU.1 hy).1;refine bQ ⟨by omega,by omega⟩ λr hr=>?_;subst hr;rw[adT];have hN:=ht.pow.le;have yT:=ht.room;obtain⟨F6,hu1⟩:=ht.drop hy hk;rw[he] at F6;have e:=ht.is i y hy hk;rw[he] at e;refine cN rfl ?_;show T W _ (gj _ (kf ⟨0,0,2⟩) _);refine mS oC aZ (uK _) ?_;apply ws;intros;rw[aw (by omega),aw (by omega),show(x.2:Int) -1=((x.2-1:Nat):Int) by omega,show(lf:Int)+1=((lf+1:Nat):Int) by omega];have:=hc (some ⟨r,0,none⟩) c _ _ _ _ _ F6 (T.drop (h (by rw[e];rfl)));rw[aeX] at this;exact this
 ·apply ws;intros;exact hc _ _ _ _ _ _ _ ht (T.drop (h0 (ht.yr hp.none_)))
structure Part(cs:List Cell)(i:Nat)(m':Nat->Option Int)(u':Nat):Prop where
 to:∀(k:Nat)(v:Int),m' k=some v->∃(j:Nat)(y:Cell),j<i/\cs[j]?=some y/\y.kind=1/\y.key=k/\y.at_=v
 from_:∀(j:Nat)(y:Cell),j<i->cs[j]?=some y->y.kind=1->m' y.key=some y.at_
 n:u'=(cs.take i).countP (λc:Cell=>c.kind=1)
def Part.same{cs:List Cell}{m m':Nat->Option Int}{u lf u':Nat}(ht:TI cs m u lf)(hp:Part cs cs.length m' u'):m'=m/\u'=u:=by
 constructor
 ·funext k
  cases hm:m' k with
  |some v=>
   obtain⟨j,y,h1,h2,h3,h4,h5⟩:=hp.to k v hm;have:=ht.is j y h2 h3;rw[h4,h5] at this;exact this.symm
  |none=>
   cases hk:m k with
   |none=>rfl
   |some v=>
    obtain⟨j,y,h2,h3,h4⟩:=ht.has k v hk;have:=hp.from_ j y (adU.1 h2).1 h2 h3;rw[h4,hm] at this;cases this
 ·rw[hp.n,ad5,ht.used]
def tC(cs:List Cell)(p:Cell->Bool){i:Nat}{y:Cell}(hy:cs[i]?=some y):(cs.take (i+1)).countP p=(cs.take i).countP p+(if p y then 1 else 0):=by
 have aZ:=(adU.1 hy).1;rw[aeM aZ,List.countP_append];have:cs[i]=y:=by rw[adS aZ] at hy;exact aec.inj hy
 rw[this,List.countP_singleton]
def UW{b:OA}{c u lf:Nat}{cs:List Cell}{m:Nat->Option Int}{R:LH}(ht:TI cs m u lf)(hu:u<=1000)
 (h:∀b' c' rq,TI rq m u 0->3* (u+1)<=rq.length->T W (Sep.pt t [.l b' rq.length c',.i (u:Int),.i 0]::own b' rq.length c' 4 (rq.flatMap kf)::R) (K (.tuple ⟨[]⟩))):
 T W (Sep.pt t [.l b cs.length c,.i (u:Int),.i (lf:Int)]::own b cs.length c 4 (cs.flatMap kf)::R) (mo (some ⟨t,0,none⟩) K):=by
 unfold mo;have hN8:=ht.pow.ge;have hNl:=ht.pow.le;apply ws;intros;intro w hs;refine⟨λvs w=>∃n:Nat,Pow n/\n<=6* (u+1)+8/\vs=[.l b cs.length c,.i (n:Int)]/\St W w (Sep.pt t [.l b cs.length c,.i (u:Int),.i (lf:Int)]::own b cs.length c 4 (cs.flatMap kf)::R),
  λvs _=>match vs with|[_,.int _ n]=>3* (u+1) -n.toNat|_=>0,⟨8,⟨3,by decide,by decide,rfl⟩,by omega,rfl,hs⟩,?_⟩
 rintro uR qe uQ n1 w2 ⟨n,hn,hnb,e,hs⟩;cases e
 refine T.at ?_ hs;have hn8:=hn.ge;apply ws;intros;rw[aw (show-9223372036854775808<=(u:Int)+1/\(u:Int)+1<=9223372036854775807 by omega),aw (by omega)];refine dP (λh1=>?_) (λh1=>?_)
 ·have h1:(n:Int)<3* ((u:Int)+1):=h1;rw[aw (by omega)];refine λw3 h3=>⟨⟨n* 2,?_,by omega,by rw[show(n:Int)* 2=((n* 2:Nat):Int) by omega],h3⟩,?_⟩
  ·obtain⟨j,j1,j2,j3⟩:=hn;refine⟨j+1,by omega,?_,by rw[Nat.pow_succ,j3]⟩;by_cases hj:j+1<=20
   ·exact hj
   ·have:j=20:=by omega
    subst this;have:n=1048576:=by rw[j3]
    omega
  ·show 3* (u+1) -((n:Int)* 2).toNat<3* (u+1) -(n:Int).toNat;omega
 have h1: ¬(n:Int)<3* ((u:Int)+1):=h1;refine DH ⟨by omega,by omega,by omega,by omega⟩ λr=>?_;rw[adT,nw (g:=kf) (z:=⟨0,0,0⟩) (zs:=[.u 0,.u 0,.i 0,.int .u8 0]) rfl];show T W (own (some ⟨r,0,none⟩) n n 4 ((ad8 n (⟨0,0,0⟩:Cell)).flatMap kf)::_) _;apply ws;intros;intro w4 hs;refine⟨λvs w=>∃(i:Nat)(rq:List Cell)(m':Nat->Option Int)(u':Nat),i<=cs.length/\rq.length=n/\TI rq m' u' 0/\Part cs i m' u'/\vs=[.l b cs.length c,.i (cs.length:Int),.i (i:Int)]/\
                                                                                                St W w (own (some ⟨r,0,none⟩) n n 4 (rq.flatMap kf)::Sep.pt t [.l (some ⟨r,0,none⟩) n n,.i (u:Int),.i 0]::own b cs.length c 4 (cs.flatMap kf)::R),
  λvs _=>match vs with|[_,_,.int _ i]=>cs.length-i.toNat|_=>0,
  ⟨0,ad8 n ⟨0,0,0⟩,λ_=>none,0,by omega,aeZ,TI.new hn,⟨(λk v hh=>by cases hh),(λj y hj=>by omega),by simp⟩,rfl,hs⟩,?_⟩
 rintro zm yE yF n3 n4 w5 ⟨i,rq,m',u',hi,Hf,F6,hp,e,hs⟩;cases e
 refine T.at ?_ hs;refine dP (λg1=>?_) (λg1=>?_)
 ·have aZ:i<cs.length:=by omega
  have e5:=lY i;have hy:=adS aZ;generalize cs[i]=y at hy;have hut:u'+(if y.kind=1 then 1 else 0)<=u:=by
   have e1:=tC cs (λc:Cell=>c.kind=1) hy;have e2:(cs.take (i+1)).countP (λc:Cell=>c.kind=1)<=cs.countP (λc:Cell=>c.kind=1):=(List.take_sublist _ _).countP_le;rw[ht.used,e1,<-hp.n] at e2;simpa using e2
  refine bQ ⟨by omega,by omega⟩ λrb Uk=>?_;subst Uk;rw[adT];refine dx oC hy ?_;apply ws;intros;rw[e5];refine bE (λg2=>?_) (λg2=>?_)
  ·have k1:y.kind=1:=by simpa using g2
   rw[if_pos k1] at hut;apply ws;intros;subst Hf;have kH:m' y.key=none:=by
    cases hm:m' y.key with
    |none=>rfl
    |some v=>
     obtain⟨j,z,q1,q2,q3,q4,q5⟩:=hp.to _ _ hm;have:=ht.one j i z y q2 hy q3 k1 q4;omega
   refine Em F6 (λi2 z hz hk he=>?_) (λp La=>?_)
   ·have:=F6.is i2 z hz hk;rw[he,kH] at this;cases this
   apply ws;intros;obtain⟨z,d,hz,Ua,_⟩:=La.place;have K5:=(adU.1 hz).1;refine oV ⟨by omega,by omega⟩ ?_;rw[adT];apply ws;intros;refine mS oC K5 (uK _) ?_;have HY:=F6.put (v:=y.at_) La hz (by omega);have hz2:z.kind≠2:=λhh=>by
    have:=List.countP_eq_zero.1 F6.left z (aek hz);simp[hh] at this
   rw[if_neg hz2] at HY;have ey:(⟨y.key,y.at_,1⟩:Cell)=y:=by rw[<-k1]
   rw[ey] at HY;refine T.drop λw6 h6=>⟨⟨i+1,rq.set p y,sg m' y.key (some y.at_),u'+1,aZ,aeX,HY,⟨?_,?_,?_⟩,rfl,h6⟩,by show cs.length-((i+1:Nat):Int).toNat<cs.length-(i:Int).toNat;omega⟩
   ·intro k v hk;unfold sg at hk;by_cases ek:k=y.key
    ·rw[if_pos ek] at hk;cases hk;exact⟨i,y,by omega,hy,k1,ek.symm,rfl⟩
    ·rw[if_neg ek] at hk;obtain⟨j,z,q1,q2⟩:=hp.to k v hk;exact⟨j,z,by omega,q2⟩
   ·intro j z hj Ph Ua;unfold sg;by_cases ek:z.key=y.key
    ·have:=ht.one j i z y Ph hy Ua k1 ek;subst this;rw[hy] at Ph;cases Ph
     rw[if_pos rfl]
    ·rw[if_neg ek];refine hp.from_ j z ?_ Ph Ua;by_cases ej:j=i
     ·subst ej;rw[hy] at Ph;cases Ph;exact absurd rfl ek
     ·omega
   ·rw[tC cs _ hy,hp.n];simp[k1]
  ·have k1: ¬y.kind=1:=by simpa using g2
   refine T.drop λw6 h6=>⟨⟨i+1,rq,m',u',aZ,Hf,F6,⟨?_,?_,?_⟩,rfl,h6⟩,by show cs.length-((i+1:Nat):Int).toNat<cs.length-(i:Int).toNat;omega⟩
   ·intro k v hk;obtain⟨j,z,q1,q2⟩:=hp.to k v hk;exact⟨j,z,by omega,q2⟩
   ·intro j z hj Ph Ua;refine hp.from_ j z ?_ Ph Ua;by_cases ej:j=i
    ·subst ej;rw[hy] at Ph;cases Ph;exact absurd Ua k1
    ·omega
   ·rw[tC cs _ hy,hp.n];simp[k1]
 ·have he:i=cs.length:=by omega
  subst he;obtain⟨rfl,rfl⟩:=hp.same ht;subst Hf;have:=h (some ⟨r,0,none⟩) rq.length rq F6 (by omega);exact λw hs=>this w ((hs.perm (aej.swap _ _ _)).focus (k:=2) rfl).drop
def FH{b:OA}{c u lf k:Nat}{v:Int}{cs:List Cell}{m:Nat->Option Int}{R:LH}{r1:Nat}{g:LV->LH}[i:Lc (Sep.pt r1) R (nm k) g](ht:TI cs m u lf)(hr:4* (u+lf+1)<=3* cs.length)(hk:m k=none)
 (h:∀b' c' rq G',TI rq (sg m k (some v)) (u+1) G'->T W (Sep.pt t [.l b' rq.length c',.i ((u+1:Nat):Int),.i (G':Int)]::own b' rq.length c' 4 (rq.flatMap kf)::R) (K (.bool true))):
 T W (Sep.pt t [.l b cs.length c,.i (u:Int),.i (lf:Int)]::own b cs.length c 4 (cs.flatMap kf)::R) (cb.j1 K r1 (some ⟨t,0,none⟩) v):=by
 unfold cb.j1;apply ws;intros;refine Em ht (λi2 z hz XG he=>?_) (λp La=>?_)
 ·have:=ht.is i2 z hz XG;rw[he,hk] at this;cases this
 obtain⟨z,d,hz,Ua,_⟩:=La.place;have K5:=(adU.1 hz).1;have hN:=ht.pow.le;apply ws;intros;refine bQ ⟨by omega,by omega⟩ λr hr=>?_;subst hr;rw[adT];simp only[dU,adW];refine At (r:=r) (j:=3) oC hz rfl ?_;have HY:=ht.put (v:=v) La hz hr;have WU:∀G':Nat,G'=(if z.kind=2 then lf-1 else lf)->T W (Sep.pt t [.l (some ⟨r,0,none⟩) cs.length c,.i (u:Int),.i (G':Int)]::own (some ⟨r,0,none⟩) cs.length c 4 (cs.flatMap kf)::R) (cb.j2 K (some ⟨t,0,none⟩) r1 (p:Int) v):=by
  intro G' hlf;unfold cb.j2;apply ws;intros;refine oV ⟨by omega,by omega⟩ ?_;rw[adT];refine cN rfl ?_;show T W _ (gj _ (kf ⟨k,v,1⟩) _);refine mS oC K5 (uK _) ?_;apply ws;intros;have yT:=ht.room;rw[aw (by omega),show(u:Int)+1=((u+1:Nat):Int) by omega];have:=h (some ⟨r,0,none⟩) c (cs.set p ⟨k,v,1⟩) G' (by rw[hlf];exact HY);rw[aeX] at this;exact this
 have yT:=ht.room;apply ws;intros;refine bE (λg2=>?_) (λg2=>?_)
 ·have k2:z.kind=2:=by simpa using g2
  have h1:1<=lf:=by
   rw[<-ht.left];exact List.countP_pos_iff.2 ⟨z,aek hz,by simpa using k2⟩
  apply ws;intros;rw[aw (by omega),show(lf:Int) -1=((lf-1:Nat):Int) by omega];exact WU (lf-1) (by rw[if_pos k2])
 ·have k2: ¬z.kind=2:=by simpa using g2
  exact WU lf (by rw[if_neg k2])
def Kc{k:Nat}{v:Int}[i:Lc (kY t) L x f](hu:x.2<=1000)(hk:x.1 k=none)(h:T W (f (sg x.1 k (some v),x.2+1)) (K (.bool true))):T W L (cb (some ⟨t,0,none⟩) (nm k) v K):=by
 refine MC (t:=t) λb c cs lf R ht hc=>?_;unfold cb;refine qD λr1=>dV rfl ?_;refine T.aai ?_;have hN:=ht.pow.le;have yT:=ht.room;have fin:∀b' c' rq G',TI rq (sg x.1 k (some v)) (x.2+1) G'->T W (Sep.pt t [.l b' rq.length c',.i ((x.2+1:Nat):Int),.i (G':Int)]::own b' rq.length c' 4 (rq.flatMap kf)::Sep.pt r1 (nm k)::R) (K (.bool true)):=
  λb' c' rq G' F6 w hs=>hc _ _ _ _ _ _ _ F6 h w (hs.focus (k:=2) rfl).drop
 have Ue:adP.wrap ((x.2:Int)+lf)=(x.2:Int)+lf:=aw (by omega);have Ud:adP.wrap ((x.2:Int)+lf+1)=(x.2:Int)+lf+1:=aw (by omega);have Xh:adP.wrap (4* ((x.2:Int)+lf+1))=4* ((x.2:Int)+lf+1):=aw (by omega);have hw4:adP.wrap (3* (cs.length:Int))=3* (cs.length:Int):=aw (by omega);apply ws;intros;rw[Ue,Ud,Xh,hw4];refine dP (λg=>?_) (λg=>?_)
 ·refine UW ht hu λb' c' rq F6 Hf=>?_;apply ws;intros;exact FH (lf:=0) F6 (by omega) hk fin
 ·have:=g;exact FH ht (by omega) hk fin
def Tb(h:∀t,T W (kY t (λ_=>none,0)::L) (K (.p (some ⟨t,0,none⟩)))):T W L (rH K):=by
 unfold rH;refine DH ⟨by decide,by decide,by decide,by decide⟩ λr=>?_;rw[show((8:Int).toNat)=8 from rfl,nw (g:=kf) (z:=⟨0,0,0⟩) (zs:=[.u 0,.u 0,.i 0,.int .u8 0]) rfl];apply ws;intros;rename_i r1;refine λw hs=>h r1 w ?_;exact St.nJ (some ⟨r,0,none⟩,8,ad8 8 ⟨0,0,0⟩,0) (St.and_intro (TI.new ⟨3,by decide,by decide,rfl⟩) (St.join hs))
end
section
variable {W:World} {L:LH} {K:VK} {X:WK} {α:Type} {r o:Nat} {pre post:LV} {g:α->LV} {e:Nat} {l:List α} {f:List α->LH}
def eW{e:Nat}(h:T W (own none 0 0 e []::L) X):T W L X:=λw hs=>h w (hs.push (oK e))
def gZ{b:OA}{n c bytes r1:Nat}{zero:LV}{x:α}{ys:LV}{f:HP->LH}{f1:LV->LH}{K:OA->Nat->Nat->WK}[i:oQ b n c L e (l.flatMap g) f][j:Lc (Sep.pt r1) L ys f1](hy:ys=g x)(hg:(g x).length=e)(hz:zero.length=e)
 (hb:(n+1)* bytes<=140737488355328)(hm:n+1<=9223372036854775807)(h1:∀v∈g x,v.oneCell'=true)(h:∀b' c',T W (f (own b' (n+1) c' e ((l++[x]).flatMap g))) (K b' (n+1) c')):T W L (eS e bytes zero b n c (some ⟨r1,0,none⟩) 1 K):=by
 refine MQ (ys:=ys) (by rw[hy];exact hg) hz hb (by rw[hy];exact h1) (λb' c'=>?_) hm;have:=h b' c';rw[aeP] at this;simpa [hy] using this
def AW{b:OA}{n c e i:Nat}{xs:LV}(hi:i<=n):∀h,own b n c e xs h->own b i c e (xs.take (i* e)) h:=λh=>by
 rintro⟨hl,h0|⟨r,sp,hb,qL,yR,hp⟩⟩
 ·obtain⟨rfl,rfl,rfl⟩:=h0;have:i=0:=by omega
  subst this;exact⟨by simp,.inl ⟨rfl,rfl,rfl⟩⟩
 ·have Wc:i* e<=n* e:=aeE e hi;refine⟨by rw[adX];omega,.inr ⟨r,xs.drop (i* e)++sp,hb,by omega,?_,?_⟩⟩
  ·rw[adV,ad4,yR,hl,Nat.sub_mul,Nat.sub_mul];have:n* e<=c* e:=aeE e qL;omega
  ·rw[<-ad0,aem];exact hp
def Dp{g:α->LV}(hg:∀x,(g x).length=e):∀(l:List α)(i:Nat),(l.flatMap g).take (i* e)=(l.take i).flatMap g
 |[],i=>by simp
 |x::l,0=>by simp
 |x::l,i+1=>by
  rw[aeG,List.take_succ_cons,aeG,<-Dp hg l i,show(i+1)* e=(g x).length+i* e by rw[hg,afg];omega,List.take_length_add_append]
def wm{b:OA}{n c i:Nat}{f:HP->LH}[j:oQ b n c L e (l.flatMap g) f](hg:∀x,(g x).length=e)(hi:i<=n)(h:T W (f (own b i c e ((l.take i).flatMap g))) X):T W L X:=λw hs=>by
 obtain⟨k,hk,e1⟩:=j.at_;refine h w ?_;rw[e1,<-Dp hg];exact St.nB ((hs.focus hk).mono (AW hi)) hk
def vn{b:OA}{n c i:Nat}{K:OA->Nat->Nat->WK}(hi:i<=c)(h:T W L (K b i c)):T W L (nT b n c e none (some (i:Int)) K):=by
 unfold nT;refine cN ⟨by omega,by omega⟩ ?_;dsimp only;rw[Sm,adT];exact h
def mP{b:OA}{n c:Nat}{f:HP->LH}{xs:LV}[j:oQ b n c L e xs f](h:n<=c->xs.length=n* e->T W L X):T W L X:=λw hs=>by
 obtain⟨k,hk,_⟩:=j.at_;obtain⟨hl,h0|⟨r,sp,hb,qL,_⟩⟩:=hs.lD hk
 ·exact h (by omega) hl w hs
 ·exact h qL hl w hs
end
abbrev ki:=Int×Int
def k9(p:ki):LV:=[.i p.1,.i p.2]
def kv(p:ki):(k9 p).length=2:=rfl
instance{p:ki}:Ln (k9 p) 2:=⟨rfl⟩
instance{p:ki}:Gt (k9 p) 1 (.i p.2):=⟨rfl⟩
def pP(p:ki):∀v∈k9 p,v.oneCell'=true:=λv h=>by simp[k9] at h;rcases h with rfl|rfl<;>rfl
instance{x1 x2:Value}{p:ki}:Wr [x1,x2] 0 (k9 p) (k9 p):=⟨rfl,adY _,pP p⟩
def pos(s:Int):List ki->Nat
 |[]=>0
 |p::l=>if p.1<s then pos s l+1 else 0
def DX(s:Int):∀l:List ki,pos s l<=l.length
 |[]=>adY _
 |p::l=>by unfold pos;split<;>simp;exact DX s l
def oF(l:List ki):Prop:=l.Pairwise λa b=>a.1<b.1
def HL(s:Int):∀(l:List ki)(i:Nat),i<=l.length->(∀(j:Nat)(p:ki),j<i->l[j]?=some p->p.1<s)->(∀(j:Nat)(p:ki),i<=j->l[j]?=some p->s<=p.1)->i=pos s l
 |[],i,hi,_,_=>by simp at hi;subst hi;rfl
 |q::l,0,hi,h1,h2=>by
  unfold pos;rw[if_neg];have:=h2 0 q (adY _) rfl;omega
 |q::l,i+1,hi,h1,h2=>by
  unfold pos;rw[if_pos (h1 0 q (by omega) rfl),<-HL s l i (by simpa using hi) (λj p hj hp=>h1 (j+1) p (by omega) (by simpa using hp)) (λj p hj hp=>h2 (j+1) p (by omega) (by simpa using hp))]
def half{i j:Nat}(h:i+j<4611686018427387904):adP.wrap (shr .u64 (IntKind.u64.wrap (adP.wrap ((i:Int)+j))) 1)=(((i+j)/2:Nat):Int):=by
 have e0:adP.wrap ((i:Int)+j)=((i+j:Nat):Int):=by rw[aw (by omega)];omega
 rw[e0,og (by omega)];unfold shr;have e:min (1:Int).toNat IntKind.u64.bits=1:=rfl;rw[e,Int.fdiv_eq_ediv_of_nonneg _ (by decide)];rw[aw (by omega)];omega
def xp(s:Int)(l:List ki)(i:Nat):Bool:=match l[i]? with|some p=>decide (s<=p.1)|none=>true
section
variable {W:World} {L:LH} {K:VK} {X:WK} {r o:Nat} {l:List ki}
def OP{n:Nat}{v:Value}(P:Nat->Bool)(hn:n<1099511627776)(SD:∀i j,i<=j->P i=true->P j=true)
 (XX:∀(i:Nat)(K:VK),i<n->T W L (K (.bool (P i)))->T W L (tj [(N.cY,cY.u)] v [.i (i:Int)] K))
 (h:∀i:Nat,i<=n->(∀j,j<i->P j=false)->(∀j,i<=j->j<n->P j=true)->T W L (K (.i (i:Int)))):T W L (qG (n:Int) v K):=by
 unfold qG;intro w hs;refine⟨λvs w=>∃i j:Nat,i<=j/\j<=n/\(∀k,k<i->P k=false)/\(∀k,j<=k->k<n->P k=true)/\vs=[.i 0,.i (i:Int),.i (j:Int)]/\St W w L,
  λvs _=>match vs with|[_,.int _ i,.int _ j]=>j.toNat-i.toNat|_=>0,⟨0,n,ad2 _,adY _,(λk hk=>by omega),(λk h1 h2=>by omega),rfl,hs⟩,?_⟩
 rintro n2 n3 n4 w2 ⟨i,j,Hh,hjn,hi,hj,e,hs⟩;cases e
 refine T.at ?_ hs;rw[half (by omega)];refine dP (λg=>?_) (λg=>?_)
 ·have aZ:i<j:=by omega
  refine cN (by decide) (XX _ _ (by omega) ?_);refine qC (bE (λg2=>?_) (λg2=>?_))
  ·have p0:P ((i+j)/2)=false:=by simpa using g2
   have e1:adP.wrap ((((i+j)/2:Nat):Int)+1)=(((i+j)/2+1:Nat):Int):=by rw[aw (by omega)];omega
   rw[e1];refine λw3 h3=>⟨⟨(i+j)/2+1,j,by omega,hjn,λk hk=>?_,hj,rfl,h3⟩,by show(j:Int).toNat-(((i+j)/2+1:Nat):Int).toNat<(j:Int).toNat-(i:Int).toNat;omega⟩;cases hp:P k with
   |false=>rfl
   |true=>rw[SD k ((i+j)/2) (by omega) hp] at p0;cases p0
  ·have p1:P ((i+j)/2)=true:=by simpa using g2
   refine λw3 h3=>⟨⟨i,(i+j)/2,by omega,by omega,hi,λk hk _=>SD _ k hk p1,rfl,h3⟩,by show(((i+j)/2:Nat):Int).toNat-(i:Int).toNat<(j:Int).toNat-(i:Int).toNat;omega⟩
 ·have:i=j:=by omega
  subst this;exact h i hjn hi hj
def zP{s:Int}{cs:LV}{b:OA}{c:Nat}{f:LV->LH}{g:HP->LH}(hv:cs[o]?=some (.l b l.length c))(hr:oF l)(hl:l.length<1099511627776)[i:Lc (Sep.pt r) L cs f][j:oQ b l.length c L 2 (l.flatMap k9) g](h:T W L (K (.i (pos s l:Int)))):T W L (iC (some ⟨r,o,none⟩) s K):=by
 unfold iC
 repeat' first|apply ws;intros|apply wb|with_reducible refine jH hv ?_|fail
 rename_i r1 r2;refine OP (xp s l) hl ?_ ?_ ?_
 ·intro i j Hh hi;unfold xp at *;by_cases hj:j<l.length
  ·have qA:i<l.length:=by omega
   rw[adS qA] at hi;rw[adS hj];simp only[decide_eq_true_eq] at *;by_cases e:i=j
   ·subst e;exact hi
   ·have:=aeY.1 hr i j qA hj (by omega);omega
  ·rw[aeT (by omega)]
 ·intro i K hi hK;show T W _ (cY (i:Int) (ad r1 0) (ad r2 0) K);unfold cY
  repeat' first|apply ws;intros|apply wb|with_reducible refine jH hv ?_|fail
  refine bQ ⟨by omega,by omega⟩ λrb hb=>?_;subst hb;rw[adT];refine vo kv (adS hi) rfl ?_;apply ws;intros;refine T.fin (T.dp hK) ?_;unfold xp;rw[adS hi]
 ·intro i hi h1 h2;apply ws;intros;have e:i=pos s l:=HL s l i hi (λj p hj hp=>by
   have:=h1 j hj
   unfold xp at this
   rw[hp] at this
   simpa using this) (λj p hj hp=>by
   have:=h2 j hj (adU.1 hp).1
   unfold xp at this
   rw[hp] at this
   simpa using this)
  subst e;exact T.drop (T.drop h)
def Jo{s:Int}:∀{l:List ki},(∀p∈l,p.1<s)->pos s l=l.length
 |[],_=>rfl
 |p::l,h=>by unfold pos;rw[if_pos (h p (by simp)),Jo λq hq=>h q (by simp[hq])];rfl
def DG{r o:Nat}{cs:LV}{v:Value}{u:Value}{f:LV->LH}[i:Lc (Sep.pt r) L cs f](hv:cs[o]?=some u)(h1:v.oneCell'=true)(h:T W (f (cs.set o v)) X):T W L (st ⟨r,o,none⟩ v X):=yC (adU.1 hv).1 h1 h
def pc{cs:LV}{o:Nat}{u v:Value}(hv:cs[o]?=some u):(cs.set o v)[o]?=some v:=by rw[aeo,if_pos rfl,if_pos (adU.1 hv).1]
def tE{b:OA}{n c i e:Nat}{K:OA->Nat->Nat->WK}(hi:i<=n)(h:T W L (K (tI b c i e) (n-i) (c-i))):T W L (nT b n c e (some (i:Int)) none K):=by
 unfold nT;refine cN ⟨by omega,by omega⟩ ?_;rw[adT];exact h
def J'(w:World)(e:Nat)(b:OA):Src w 0 e b []:=⟨by simp,λa ha j v hj=>by simp at hj⟩
def WH{e n m:Nat}{b b':OA}{K:Nat->WK}(hm:min m n=0)(h:T W L (K 0)):T W L (Om e b n b' m K):=λw hs=>by
 unfold Om;rw[hm];exact⟨[],J' w e b',λ_=>rfl,λ_=>h w hs,λa _=>⟨⟨by simp,λj hj=>by simp at hj⟩,h w hs⟩⟩
def TG{b b':OA}{n c e bytes:Nat}{zero:LV}{K:OA->Nat->Nat->WK}{xs:LV}{f:HP->LH}[i:oQ b n c L e xs f](h:T W L (K b n c)):T W L (eS e bytes zero b n c b' 0 K):=
 mP (b:=b) λqL _ w hs=>⟨[],J' w e b',λ_=>rfl,λ_=>⟨λa _=>⟨⟨by simp,λj hj=>by simp at hj⟩,h w hs⟩,λ_=>h w hs⟩,λaZ=>by omega⟩
section
variable {R:LH} {cs:LV} {b:OA} {c:Nat}
def TY{s a:Int}(hv:cs[o]?=some (.l b l.length c))(hr:oF l)(hl:l.length<1099511627)(hs:∀p∈l,p.1<s)
 (h:∀b' c',T W (Sep.pt r (cs.set o (.l b' (l.length+1) c'))::own b' (l.length+1) c' 2 ((l++[(s,a)]).flatMap k9)::R) (K (.bool true))):
 T W (Sep.pt r cs::own b l.length c 2 (l.flatMap k9)::R) (fy (some ⟨r,o,none⟩) s a K):=by
 unfold fy;refine tG ?_;refine zP hv hr (by omega) ?_;rw[Jo hs]
 repeat' first|apply ws;intros|apply wb|with_reducible refine jH hv ?_|fail
 refine dV (by simp) ?_;unfold fy.j1
 repeat' first|apply ws;intros|apply wb|with_reducible refine jH hv ?_|fail
 refine gZ (x:=((0:Int),(0:Int))) rfl rfl rfl (by omega) (by omega) (pP _) λb' c'=>?_
 repeat' first|apply ws;intros|apply wb|with_reducible first|refine DG hv rfl ?_|refine jH (pc hv) ?_|fail
 have e1:adP.wrap ((l.length:Int)+1)=((l.length+1:Nat):Int):=by rw[aw (by omega)];omega
 rw[e1];refine tE (adY _) ?_
 repeat' first|apply ws;intros|apply wb|with_reducible refine jH (pc hv) ?_|fail
 refine tE (by omega) ?_;refine WH (by omega) ?_
 repeat' first|apply ws;intros|apply wb|with_reducible first|refine tF (pc hv) ?_|refine jH (pc hv) ?_|fail
 refine mP (b:=b') λqL hlen=>?_;refine bQ ⟨by omega,by omega⟩ λrb hb=>?_;subst hb;rw[adT];refine cN rfl ?_;show T W _ (gj _ (k9 (s,a)) _);refine mS kv (by simp) (pP _) ?_;have:=h (some ⟨rb,0,none⟩) c';rw[List.set_append_right _ _ (adY _)];simpa using T.drop this
def Qs{s a:Int}{l0:List ki}(hv:cs[o]?=some (.l b l.length c))(hr:oF l)(hl:l.length<1099511627)(hs:l=l0++[(s,a)])
 (h:∀b' c',T W (Sep.pt r (cs.set o (.l b' l0.length c'))::own b' l0.length c' 2 (l0.flatMap k9)::R) (K (.bool true))):
 T W (Sep.pt r cs::own b l.length c 2 (l.flatMap k9)::R) (fF (some ⟨r,o,none⟩) s K):=by
 have hlen:l.length=l0.length+1:=by rw[hs];simp
 have hp:pos s l=l0.length:=by
  refine(HL s l l0.length (by omega) (λj p hj SC=>?_) (λj p hj SC=>?_)).symm
  ·have aZ:=(adU.1 SC).1;have:=aeY.1 hr j l0.length aZ (by omega) hj;rw[adS aZ] at SC;rw[aec.inj SC] at this;have e:l[l0.length]=(s,a):=by simp[hs]
   rw[e] at this;exact this
  ·have aZ:=(adU.1 SC).1;have:j=l0.length:=by omega
   subst this;rw[hs] at SC;simp at SC;rw[<-SC];exact afm _
 have hg:l[l0.length]?=some (s,a):=by rw[hs];simp
 unfold fF;refine tG ?_;refine zP hv hr (by omega) ?_;rw[hp]
 repeat' first|apply ws;intros|apply wb|with_reducible refine jH hv ?_|fail
 refine dV (by simp;omega) ?_
 repeat' first|apply ws;intros|apply wb|with_reducible refine jH hv ?_|fail
 refine bQ ⟨by omega,by omega⟩ λrb hb=>?_;subst hb;rw[adT];refine vo kv hg rfl ?_;apply ws;intros;unfold fF.j1;refine dV (by simp) ?_
 repeat' first|apply ws;intros|apply wb|with_reducible refine jH hv ?_|fail
 refine mP (b:=some ⟨rb,0,none⟩) λqL tW=>?_;refine vn (by omega) ?_
 repeat' first|apply ws;intros|apply wb|with_reducible refine jH hv ?_|fail
 have e1:adP.wrap ((l0.length:Int)+1)=((l0.length+1:Nat):Int):=by rw[aw (by omega)];omega
 rw[e1];refine tE (by omega) ?_;rw[hlen] at hv;rw[hlen,afe];have et:l.take l0.length=l0:=by rw[hs];simp
 refine wm (b:=some ⟨rb,0,none⟩) (i:=l0.length) kv (by omega) ?_;rw[et];refine TG (b:=some ⟨rb,0,none⟩) ?_
 repeat' first|apply ws;intros|apply wb|with_reducible first|refine tF hv ?_|refine DG hv rfl ?_|fail
 exact h _ _
def qB(to:Int)(l:List ki):Nat:=if to=0 then l.length else match l[pos to l]? with|some p=>if p.1=to then pos to l+1 else pos to l|none=>pos to l
def PO(to:Int)(l:List ki):qB to l<=l.length:=by
 unfold qB;have:=DX to l;split
 ·exact adY _
 ·split
  ·rename_i p hp;have:=(adU.1 hp).1;split<;>omega
  ·omega
def mA(from_ to:Int)(l:List ki):List ki:=(l.drop (pos from_ l)).take (qB to l-pos from_ l)
def Qd{m out:List ki}{i:Nat}(hl:m.length=out.length)(hm:∀j,j<out.length->m[j]?=if j<i\/out.length-1-j<i then out[out.length-1-j]? else out[j]?)(hi:out.length<=2* i+1):m=out.reverse:=by
 apply afb;intro j;by_cases hj:j<out.length
 ·rw[hm j hj,List.getElem?_reverse hj];by_cases h:j<i\/out.length-1-j<i
  ·rw[if_pos h]
  ·rw[if_neg h];congr 1;omega
 ·rw[aeT (by omega),aeT (by simpa using hj)]
def Nq{from_ to:Int}{uH:Bool}{f:LV->LH}{g:HP->LH}(hv:cs[o]?=some (.l b l.length c))(hr:oF l)(hl:l.length<100000)[i:Lc (Sep.pt r) L cs f][j:oQ b l.length c L 2 (l.flatMap k9) g]
 (h:∀b' c' out,out=(if uH then(mA from_ to l).reverse else mA from_ to l)->T W (own b' out.length c' 2 (out.flatMap k9)::L) (K (.l b' out.length c'))):T W L (dh (some ⟨r,o,none⟩) from_ to uH K):=by
 unfold dh;refine tG ?_
 repeat' first|apply ws;intros|apply wb|with_reducible refine jH hv ?_|fail
 refine zP hv hr (by omega) ?_
 repeat' first|apply ws;intros|apply wb|with_reducible refine tF hv ?_|fail
 have j1:T W L (dh.j1 K (pos from_ l:Int) (some ⟨r,o,none⟩) uH (qB to l:Int)):=by
  have hul:=PO to l;unfold dh.j1;refine eW (e:=2) ?_;intro w hs;refine⟨λvs w=>∃(k:Nat)(out:List ki)(b':OA)(c':Nat),pos from_ l<=k/\(k<=qB to l\/k=pos from_ l)/\out=(l.drop (pos from_ l)).take (k-pos from_ l)/\out.length=k-pos from_ l/\
   vs=[.l none 0 0,.i (k:Int),.i (qB to l:Int),.l b' out.length c']/\St W w (own b' out.length c' 2 (out.flatMap k9)::L),
   λvs _=>match vs with|[_,.int _ k,.int _ n,_]=>n.toNat-k.toNat|_=>0,⟨pos from_ l,[],none,0,adY _,.inr rfl,by simp,by simp,rfl,hs⟩,?_⟩
  rintro uR qe uQ n5 n6 b' pz c' w2 ⟨k,out,b0,c0,Pu,rl,tu,hol,e,hs⟩;cases e
  refine T.at ?_ hs;have L5:=DX from_ l;refine dP (λg1=>?_) (λg1=>?_)
  ·have aZ:k<qB to l:=by omega
   have e5:=lY k;have hg:=adS (show k<l.length by omega);generalize l[k]=p at hg
   repeat' first|apply ws;intros|apply wb|with_reducible refine jH hv ?_|fail
   refine bQ ⟨by omega,by omega⟩ λrb hb=>?_;subst hb;rw[adT,e5];refine dx kv hg ?_;apply ws;intros;refine gZ (x:=p) rfl rfl rfl (by omega) (by omega) (pP _) λb2 c2=>?_;refine T.drop λw3 h3=>⟨⟨k+1,out++[p],b2,c2,by omega,.inl aZ,?_,by simp;omega,by simp,by simpa using h3⟩,by show(qB to l:Int).toNat-((k+1:Nat):Int).toNat<(qB to l:Int).toNat-(k:Int).toNat;omega⟩;rw[show k+1-pos from_ l=(k-pos from_ l)+1 by omega,aeb,<-tu,ae8,show pos from_ l+(k-pos from_ l)=k by omega,hg]
   rfl
  ·have gr:qB to l<=k:=by omega
   have Xp:out=mA from_ to l:=by
    rw[tu];unfold mA;rcases rl with h2|h2
    ·rw[show k=qB to l by omega]
    ·rw[h2,afe,show qB to l-pos from_ l=0 by omega]
   refine bE (λg2=>?_) (λg2=>?_)
   ·subst g2;intro w2 hs;refine⟨λvs w=>∃(i:Nat)(m:List ki),i<=out.length/\m.length=out.length/\(∀j,j<out.length->m[j]?=if j<i\/out.length-1-j<i then out[out.length-1-j]? else out[j]?)/\
     vs=[.l none 0 0,.l b' out.length c',.i (i:Int),.i ((out.length:Int) -1-i)]/\St W w (own b' out.length c' 2 (m.flatMap k9)::L),
     λvs _=>match vs with|[_,_,.int _ k,_]=>out.length-k.toNat|_=>0,⟨0,out,ad2 _,rfl,λj hj=>by simp,by rw[aw (by omega)];simp,hs⟩,?_⟩
    rintro Zn WQ VT sb7 Zk sc7 n7 n8 w5 ⟨i,m,hi,Gd,hm,e,hs⟩;cases e
    refine T.at ?_ hs;refine dP (λg3=>?_) (λg3=>?_)
    ·have aZ:(i:Int)<(out.length:Int) -1-i:=g3;obtain⟨k2,aaH⟩:∃k2:Nat,k2=out.length-1-i:=⟨_,rfl⟩;have ek:(out.length:Int) -1-i=(k2:Int):=by omega
     have e5:=lY i;have e6:adP.wrap ((k2:Int) -1)=(out.length:Int) -1-((i+1:Nat):Int):=by rw[aw (by omega)];omega
     have g4:=adS (show i<m.length by omega);have g5:=adS (show k2<m.length by omega);have g6:=hm i (by omega);have g7:=hm k2 (by omega);rw[if_neg (by omega)] at g6;rw[if_neg (by omega)] at g7;generalize m[i]=x at g4;generalize m[k2]=y at g5;rw[ek,e5,e6];apply ws;intros;refine bQ ⟨by omega,by omega⟩ λrb hb=>?_;subst hb;rw[adT];refine dx kv g5 ?_;refine oV ⟨by omega,by omega⟩ ?_;rw[adT];refine dx kv g4 ?_;refine oV ⟨by omega,by omega⟩ ?_;rw[adT];refine cN rfl (mS kv (by omega) (pP _) ?_);refine oV ⟨by omega,by omega⟩ ?_;rw[adT];refine cN rfl (mS kv (by simp;omega) (pP _) ?_);refine λw3 h3=>⟨⟨i+1,(m.set i y).set k2 x,by omega,by simp[Gd],λj hj=>?_,rfl,h3⟩,by show out.length-((i+1:Nat):Int).toNat<out.length-(i:Int).toNat;omega⟩;rw[aeo,aeo];by_cases q1:k2=j
     ·subst q1;rw[if_pos rfl,if_pos (by simp;omega),if_pos (by omega),show out.length-1-k2=i by omega,<-g6,g4]
     ·rw[if_neg q1];by_cases q2:i=j
      ·subst q2;rw[if_pos rfl,if_pos (by omega),if_pos (by omega),<-aaH,<-g7,g5]
      ·rw[if_neg q2,hm j hj];by_cases q3:j<i\/out.length-1-j<i
       ·rw[if_pos q3,if_pos (by omega)]
       ·rw[if_neg q3,if_neg (by omega)]
    ·have adF: ¬(i:Int)<(out.length:Int) -1-i:=g3;have:=Qd Gd hm (by omega);subst this;have:=h b' c' out.reverse (by rw[if_pos rfl,Xp]);rw[aeO] at this;exact this
   ·subst g2;exact h b' c' out (by rw[if_neg (by decide),Xp])
 refine bE (λg1=>?_) (λg1=>?_)
 ·have Pj:to≠0:=by simpa using g1
  refine zP hv hr (by omega) ?_;have hpt:=DX to l
  repeat' first|apply ws;intros|apply wb|with_reducible refine jH hv ?_|fail
  unfold qB at j1;rw[if_neg Pj] at j1;refine dP (λg2=>?_) (λg2=>?_)
  ·have aZ:pos to l<l.length:=by omega
   have hg:=adS aZ;generalize l[pos to l]=p at hg;have e5:adP.wrap ((pos to l:Int)+1)=((pos to l+1:Nat):Int):=by rw[aw (by omega)];omega
   rw[hg] at j1;dsimp only at j1
   repeat' first|apply ws;intros|apply wb|with_reducible refine jH hv ?_|fail
   rw[e5];refine bQ ⟨by omega,by omega⟩ λrb hb=>?_;subst hb;rw[adT];refine vo kv hg rfl ?_;apply ws;intros;refine bE (λg3=>?_) (λg3=>?_)
   ·rw[if_pos (by simpa using g3)] at j1;exact j1
   ·rw[if_neg (by simpa using g3)] at j1;exact j1
  ·have gr:l.length<=pos to l:=by omega
   rw[aeT gr] at j1;exact j1
 ·have Pj:to=0:=by simpa using g1
  unfold qB at j1;rw[if_pos Pj] at j1;exact j1
end
end
structure Item where
 due:Int
 ae:Int
 id:Nat
def dG(x:Item):LV:=[.i x.due,.i x.ae]++nm x.id
def eX(x:Item):(dG x).length=4:=rfl
instance{x:Item}:Ln (dG x) 4:=⟨rfl⟩
instance{x:Item}:Gt (dG x) 0 (.i x.due):=⟨rfl⟩
instance{x:Item}:Gt (dG x) 1 (.i x.ae):=⟨rfl⟩
def mq(x:Item):∀v∈dG x,v.oneCell'=true:=kT (λv h=>by simp at h;rcases h with rfl|rfl<;>rfl) (kx _)
instance{x1 x2 x3 x4:Value}{p:Item}:Wr [x1,x2,x3,x4] 0 (dG p) (dG p):=⟨rfl,adY _,mq p⟩
instance{p:Item}:Sub (dG p) 0 4 (dG p):=⟨rfl,λj v h=>by rw[adW];exact h⟩
def bf(a b:Item):Prop:=a.due<b.due\/a.due=b.due/\a.ae<b.ae
instance(a b:Item):Decidable (bf a b):=by unfold bf;infer_instance
def J0{a b:Item}(h:bf a b): ¬bf b a:=by unfold bf at *;omega
def GO{a b c:Item}(h:bf a b)(g:bf b c):bf a c:=by unfold bf at *;omega
def A6{a b c:Item}(h: ¬bf a b)(g: ¬bf b c): ¬bf a c:=by unfold bf at *;omega
def Nt{a b c:Item}(h: ¬bf a c)(g:bf b c): ¬bf a b:=λhh=>h (GO hh g)
def IC(a:Item): ¬bf a a:=by unfold bf;omega
def par(j:Nat):Nat:=(j-1)/2
def NB(h:List Item)(i j:Nat):Prop:=∀x y,h[i]?=some x->h[j]?=some y-> ¬bf x y
def qF(h:List Item):Prop:=∀j,0<j->NB h j (par j)
def HU(h:List Item)(i:Nat):Prop:=(∀j,0<j->j≠i->NB h j (par j))/\(∀j,0<j->par j=i->0<i->NB h j (par i))
def HD(h:List Item)(i:Nat):Prop:=(∀j,0<j->par j≠i->NB h j (par j))/\(∀j,0<j->par j=i->0<i->NB h j (par i))
def Kids(h:List Item)(i:Nat):Prop:=∀j,0<j->par j=i->NB h j i
def qF.hu{h:List Item}(hh:qF h)(i:Nat):HU h i:=by
 refine⟨λj h0 _=>hh j h0,λj h0 hp hi x y hx hy=>?_⟩;have aZ:j<h.length:=(adU.1 hx).1;have K8:i<h.length:=by unfold par at hp;omega
 have a1:=hh j h0 x _ hx (by rw[hp];exact adS K8);exact A6 a1 (hh i hi _ y (adS K8) hy)
def HU.heap{h:List Item}{i:Nat}(hu:HU h i)(hx:i=0\/NB h i (par i)):qF h:=λj h0=>by
 by_cases e:j=i
 ·subst e;rcases hx with hx|hx
  ·omega
  ·exact hx
 ·exact hu.1 j h0 e
def HD.heap{h:List Item}{i:Nat}(hd:HD h i)(hk:Kids h i):qF h:=λj h0=>by
 by_cases e:par j=i
 ·rw[e];exact hk j h0 e
 ·exact hd.1 j h0 e
def PZ(h:List Item)(i k:Nat)(x y:Item):List Item:=(h.set i y).set k x
def I5(h:List Item)(i k:Nat)(x y:Item):(PZ h i k x y).length=h.length:=by simp[PZ]
section
variable {h:List Item} {i k:Nat} {x y:Item}
def I6(hx:h[i]?=some x)(hy:h[k]?=some y)(NR:i≠k)(j:Nat):(PZ h i k x y)[j]?=if j=i then some y else if j=k then some x else h[j]?:=by
 have l1:=(adU.1 hx).1;have l2:=(adU.1 hy).1;unfold PZ;rw[aeo,aeo];by_cases e1:k=j
 ·subst e1;rw[if_pos rfl,if_pos (by simpa using l2),if_neg (by omega),if_pos rfl]
 ·rw[if_neg e1];by_cases e2:i=j
  ·subst e2;rw[if_pos rfl,if_pos l1,if_pos rfl]
  ·rw[if_neg e2,if_neg (by omega),if_neg (by omega)]
def ur:∀{h:List Item} {i:Nat} {x y:Item},h[i]?=some x->(x::h.set i y).Perm (y::h)
 |[],i,x,y,hx=>by simp at hx
 |a::h,0,x,y,hx=>by simp at hx;subst hx;exact aej.swap _ _ _
 |a::h,i+1,x,y,hx=>by
  have ih:=ur (y:=y) (show h[i]?=some x by simpa using hx);rw[ae7];exact(aej.swap _ _ _).trans ((ih.cons a).trans (aej.swap _ _ _))
def Fi(hx:h[i]?=some x)(hy:h[k]?=some y)(NR:i≠k):(PZ h i k x y).Perm h:=by
 have h1:=ur (y:=y) hx;have hy2:(h.set i y)[k]?=some y:=by rw[aeo,if_neg NR];exact hy
 have h2:=ur (y:=x) hy2;exact(List.perm_cons y).1 (h2.trans h1)
def HU.step(hu:HU h i)(hi:0<i)(hx:h[i]?=some x)(hy:h[par i]?=some y)(hb:bf x y):HU (PZ h i (par i) x y) (par i):=by
 have NR:i≠par i:=by unfold par;omega
 have g:=I6 hx hy NR
 constructor
 ·intro j h0 hj a b ha np;rw[g] at ha np;by_cases e1:j=i
  ·subst e1;rw[if_pos rfl] at ha;cases ha
   rw[if_neg (λh=>NR h.symm),if_pos rfl] at np;cases np
   exact J0 hb
  ·rw[if_neg e1,if_neg hj] at ha;by_cases e2:par j=i
   ·rw[if_pos e2] at np;cases np
    exact hu.2 j h0 e2 hi a y ha hy
   ·rw[if_neg e2] at np;by_cases e3:par j=par i
    ·rw[if_pos e3] at np;cases np
     exact Nt (hu.1 j h0 e1 a y ha (by rw[e3];exact hy)) hb
    ·rw[if_neg e3] at np;exact hu.1 j h0 e1 a b ha np
 ·intro j h0 hp Hc a b ha np;have n1:par (par i)≠i:=by unfold par;omega
  have n2:par (par i)≠par i:=by unfold par at *;omega
  rw[g] at ha np;rw[if_neg n1,if_neg n2] at np;have top:=hu.1 (par i) Hc (λh=>NR h.symm) y b hy np;by_cases e1:j=i
  ·subst e1;rw[if_pos rfl] at ha;cases ha
   exact top
  ·have n3:j≠par i:=by intro h;rw[h] at hp;exact n2 hp
   rw[if_neg e1,if_neg n3] at ha;exact A6 (hu.1 j h0 e1 a y ha (by rw[hp];exact hy)) top
def HD.step(hd:HD h i)(hk:par k=i)(h0k:0<k)(hx:h[i]?=some x)(hy:h[k]?=some y)(hb:bf y x)(uV:∀j,0<j->par j=i->NB h j k):HD (PZ h i k x y) k:=by
 have NR:i≠k:=by intro h;unfold par at hk;omega
 have g:=I6 hx hy NR
 constructor
 ·intro j h0 hj a b ha np;rw[g] at ha np;by_cases e1:j=i
  ·subst e1;rw[if_pos rfl] at ha;cases ha
   have n1:par j≠j:=by unfold par;omega
   rw[if_neg n1,if_neg hj] at np;exact hd.2 k h0k hk h0 y b hy np
  ·rw[if_neg e1] at ha;by_cases e2:j=k
   ·subst e2;rw[if_pos rfl] at ha;cases ha
    rw[if_pos hk] at np;cases np
    exact J0 hb
   ·rw[if_neg e2] at ha;by_cases e3:par j=i
    ·rw[if_pos e3] at np;cases np
     exact uV j h0 e3 a y ha hy
    ·rw[if_neg e3,if_neg hj] at np;exact hd.1 j h0 e3 a b ha np
 ·intro j h0 hp hk0 a b ha np;rw[g] at ha np;rw[if_pos hk] at np;cases np
  have n1:j≠i:=by intro h;unfold par at hp hk;omega
  have n2:j≠k:=by intro h;unfold par at hp;omega
  rw[if_neg n1,if_neg n2] at ha;exact hd.1 j h0 (by rw[hp];exact λh=>NR h.symm) a y ha (by rw[hp];exact hy)
def qF.first(hh:qF h)(hx:h[0]?=some x):∀y∈h,¬bf y x:=by
 have key:∀(n j:Nat),j<=n->∀y:Item,h[j]?=some y-> ¬bf y x:=by
  intro n
  induction n with
  |zero=>intro j hj y hy;have:j=0:=by omega
         subst this;rw[hx] at hy;cases hy;exact IC x
  |succ n ih=>
   intro j hj y hy;by_cases h0:j=0
   ·subst h0;rw[hx] at hy;cases hy;exact IC x
   ·have aZ:=(adU.1 hy).1;have hp:par j<h.length:=by unfold par;omega
    exact A6 (hh j (by omega) y _ hy (adS hp)) (ih (par j) (by unfold par;omega) _ (adS hp))
 intro y hy;obtain⟨j,hj⟩:=afa hy;exact key j j (adY _) y hj
def IW{z:Item}{n:Nat}(hh:qF h)(hl:h.length=n+1)(hi:i<n)(hz:h[n]?=some z):
 (i=0\/NB ((h.set i z).take n) i (par i))->HD ((h.set i z).take n) i:=by
 have g:∀j,((h.set i z).take n)[j]?=if j<n then(if j=i then some z else h[j]?) else none:=by
  intro j;rw[afi];by_cases h1:j<n
  ·rw[if_pos h1,if_pos h1,aeo];by_cases h2:i=j
   ·subst h2;rw[if_pos rfl,if_pos (by omega),if_pos rfl]
   ·rw[if_neg h2,if_neg (by omega)]
  ·rw[if_neg h1,if_neg h1]
 have old:∀j a,j≠i->((h.set i z).take n)[j]?=some a->h[j]?=some a:=by
  intro j a hj ha;rw[g] at ha;rw[if_neg hj] at ha;split at ha
  ·exact ha
  ·cases ha
 intro ht;refine⟨λj h0 hp a b ha hb=>?_,λj h0 hp SK a b ha hb=>?_⟩
 ·by_cases e:j=i
  ·subst e;rcases ht with ht|ht
   ·omega
   ·exact ht a b ha hb
  ·exact hh j h0 a b (old j a e ha) (old _ b hp hb)
 ·have n1:j≠i:=by intro h;unfold par at hp;omega
  have n2:par i≠i:=by unfold par;omega
  exact(hh.hu i).2 j h0 hp SK a b (old j a n1 ha) (old _ b n2 hb)
def PR{z:Item}{n:Nat}(hh:qF h)(hl:h.length=n+1)(hi:i<n)(hz:h[n]?=some z)(h0i:0<i){y:Item}(hy:h[par i]?=some y)(hb:bf z y):
 HU ((h.set i z).take n) i/\Kids ((h.set i z).take n) i:=by
 have g:∀j,((h.set i z).take n)[j]?=if j<n then(if j=i then some z else h[j]?) else none:=by
  intro j;rw[afi];by_cases h1:j<n
  ·rw[if_pos h1,if_pos h1,aeo];by_cases h2:i=j
   ·subst h2;rw[if_pos rfl,if_pos (by omega),if_pos rfl]
   ·rw[if_neg h2,if_neg (by omega)]
  ·rw[if_neg h1,if_neg h1]
 have old:∀j a,j≠i->((h.set i z).take n)[j]?=some a->h[j]?=some a:=by
  intro j a hj ha;rw[g] at ha;rw[if_neg hj] at ha;split at ha
  ·exact ha
  ·cases ha
 have top:=(hh.hu i).2;have kids:Kids ((h.set i z).take n) i:=λj h0 hp a b ha np=>by
  have n1:j≠i:=by intro h;unfold par at hp;omega
  rw[g,if_pos hi,if_pos rfl] at np;cases np
  exact Nt (top j h0 hp h0i a y (old j a n1 ha) hy) hb
 refine⟨⟨λj h0 hj a b ha np=>?_,λj h0 hp SK a b ha np=>?_⟩,kids⟩
 ·by_cases e:par j=i
  ·rw[e] at np;exact kids j h0 e a b ha np
  ·exact hh j h0 a b (old j a hj ha) (old _ b e np)
 ·have n1:j≠i:=by intro h;unfold par at hp;omega
  have n2:par i≠i:=by unfold par;omega
  exact top j h0 hp SK a b (old j a n1 ha) (old _ b n2 np)
end
section
variable {W:World} {R:LH} {L:LH} {K:VK} {X:WK} {r o:Nat} {cs:LV} {b:OA} {c:Nat} {h:List Item}
def GP{x y:Item}(hk:T W L (K (.bool (decide (bf x y))))):T W L (nD (dG x) (dG y) K):=by
 unfold nD
 repeat' first|apply ws;intros|apply wb|with_reducible refine bE (λh1=>?_) (λh1=>?_)|fail
 all_goals refine T.fin (T.dp hk) ?_
 ·have:=of_decide_eq_true h1;rw[decide_eq_true (show bf x y from .inl this)]
 ·rename_i h2;have h2:=of_decide_eq_false h2;have h3:x.due=y.due:=by simpa using h1
  congr 1
  rw[decide_eq_decide];unfold bf;omega
 ·rename_i h2;have h2:=of_decide_eq_false h2;have h3: ¬x.due=y.due:=by simpa using h1
  rw[decide_eq_false (show ¬bf x y by unfold bf;omega)]
def Gm{i:Nat}(h0:0<i)(h:i<1099511627776):adP.wrap ((adP.wrap ((i:Int) -1)).tdiv (2:Int))=((par i:Nat):Int):=by
 have e0:adP.wrap ((i:Int) -1)=((i-1:Nat):Int):=by rw[aw (by omega)];omega
 rw[e0];unfold par;have e1:((i-1:Nat):Int).tdiv 2=(((i-1)/2:Nat):Int):=by rw[Int.tdiv_eq_ediv_of_nonneg (by omega)];omega
 rw[e1,aw (by omega)]
def Wx{i:Nat}(hv:cs[o]?=some (.l b h.length c))(hl:h.length<100000)(hi:i<h.length)(hu:HU h i)
 (hk:∀h',qF h'->h'.Perm h->T W (Sep.pt r cs::own b h.length c 4 (h'.flatMap dG)::R) (K (.tuple ⟨[]⟩))):
 T W (Sep.pt r cs::own b h.length c 4 (h.flatMap dG)::R) (fx (some ⟨r,o,none⟩) (i:Int) K):=by
 unfold fx;intro w hs;refine⟨λvs w=>∃(j:Nat)(m:List Item),j<h.length/\m.length=h.length/\m.Perm h/\HU m j/\vs=[.i (j:Int)]/\St W w (Sep.pt r cs::own b h.length c 4 (m.flatMap dG)::R),
  λvs _=>match vs with|[.int _ j]=>j.toNat|_=>0,⟨i,h,hi,rfl,aej.refl _,hu,rfl,hs⟩,?_⟩
 rintro n2 w2 ⟨j,m,hj,Gd,hp,hum,e,hs⟩;cases e
 refine T.at ?_ hs;apply ws;intros;refine dP (λg1=>?_) (λg1=>?_)
 ·have h0:0<j:=by omega
  have L5:par j<m.length:=by unfold par;omega
  have gx:=adS (show j<m.length by omega);have gy:=adS L5;generalize m[j]=x at gx;generalize m[par j]=y at gy;have gU:j≠par j:=by unfold par;omega
  simp only[Gm h0 (by omega:j<1099511627776)]
  repeat' first|apply ws;intros|apply wb|with_reducible refine jH hv ?_|fail
  refine bQ ⟨by omega,by omega⟩ λrb hb=>?_;subst hb;rw[adT];refine dx eX gx ?_
  repeat' first|apply ws;intros|apply wb|with_reducible first|refine jH hv ?_|refine cN (by decide) ?_|fail
  refine oV ⟨by omega,by omega⟩ ?_;rw[adT];refine dx eX gy ?_
  repeat' first|apply ws;intros|apply wb|with_reducible first|refine GP ?_|refine tF hv ?_|fail
  unfold fx.j1;simp only[Gm h0 (by omega:j<1099511627776)];refine dP (λg2=>?_) (λg2=>?_)
  ·have hb:=g2
   repeat' first|apply ws;intros|apply wb|with_reducible first|refine jH hv ?_|refine cN (by decide) ?_|fail
   refine oV ⟨by omega,by omega⟩ ?_;rw[adT];refine dx eX gy ?_
   repeat' first|apply ws;intros|apply wb|with_reducible first|refine jH hv ?_|refine cN (by decide) ?_|fail
   refine oV ⟨by omega,by omega⟩ ?_;rw[adT];refine dx eX gx ?_;refine oV ⟨by omega,by omega⟩ ?_;rw[adT];refine cN rfl (mS eX (by omega) (mq _) ?_);refine oV ⟨by omega,by omega⟩ ?_;rw[adT];refine cN rfl (mS eX (by simp;omega) (mq _) ?_);refine cN (by decide) λw3 h3=>⟨⟨par j,PZ m j (par j) x y,by omega,by rw[I5];exact Gd,(Fi gx gy gU).trans hp,hum.step h0 gx gy hb,rfl,h3⟩,by show(par j:Int).toNat<(j:Int).toNat;unfold par;omega⟩
  ·refine hk m (hum.heap (.inr ?_)) hp;intro a b ha np;rw[gx] at ha;rw[gy] at np;cases ha;cases np
   exact g2
 ·have h0:j=0:=by omega
  unfold fx.j1;refine po ?_;exact hk m (hum.heap (.inl h0)) hp
def Vf{i:Nat}(hv:cs[o]?=some (.l b h.length c))(hl:h.length<100000)(hi:i<h.length)(hd:HD h i\/Kids h i)
 (hk:∀h',(qF h'\/h'=h/\Kids h i)->h'.Perm h->T W (Sep.pt r cs::own b h.length c 4 (h'.flatMap dG)::R) (K (.tuple ⟨[]⟩))):
 T W (Sep.pt r cs::own b h.length c 4 (h.flatMap dG)::R) (cV (some ⟨r,o,none⟩) (i:Int) K):=by
 unfold cV;intro w hs;refine⟨λvs w=>∃(j:Nat)(m:List Item),j<h.length/\m.length=h.length/\m.Perm h/\(HD m j\/m=h/\j=i/\Kids h i)/\vs=[.i (j:Int)]/\St W w (Sep.pt r cs::own b h.length c 4 (m.flatMap dG)::R),
  λvs _=>match vs with|[.int _ j]=>h.length-j.toNat|_=>0,⟨i,h,hi,rfl,aej.refl _,hd.imp id λhh=>⟨rfl,rfl,hh⟩,rfl,hs⟩,?_⟩
 rintro n2 w2 ⟨j,m,hj,Gd,hp,Eg,e,hs⟩;cases e
 have e1:adP.wrap (adP.wrap (2* (j:Int))+1)=((2* j+1:Nat):Int):=by
  have:adP.wrap (2* (j:Int))=2* j:=aw (by omega);rw[this,aw (by omega)];omega
 have e2:adP.wrap (adP.wrap (2* (j:Int))+2)=((2* j+2:Nat):Int):=by
  have:adP.wrap (2* (j:Int))=2* j:=aw (by omega);rw[this,aw (by omega)];omega
 rw[e1];refine⟨λvs w=>∃(k d:Nat),2* j+1<=d/\d<=2* j+3/\(k=j\/0<k/\par k=j/\∃x y,m[k]?=some x/\m[j]?=some y/\bf x y)/\(∀q,0<q->par q=j->q<d->NB m q k)/\k<h.length/\
    vs=[.i (j:Int),.i (k:Int),.i (d:Int)]/\St W w (Sep.pt r cs::own b h.length c 4 (m.flatMap dG)::R),
  λvs _=>match vs with|[_,_,.int _ d]=>2* j+3-d.toNat|_=>0,⟨j,2* j+1,adY _,by omega,.inl rfl,(λq h0 hq aZ=>by unfold par at hq;omega),hj,rfl,hs⟩,?_⟩
 rintro n5 n6 n7 w5 ⟨k,d,hd1,Pw,XG,uV,UA,e,hs⟩;cases e
 refine T.at ?_ hs;rw[e2];have out:(∀q,0<q->par q=j->NB m q k)->T W (Sep.pt r cs::own b h.length c 4 (m.flatMap dG)::R) (cV.j1 K (some ⟨r,o,none⟩) (λvs w=>∃(j:Nat)(m:List Item),j<h.length/\m.length=h.length/\m.Perm h/\(HD m j\/m=h/\j=i/\Kids h i)/\vs=[.i (j:Int)]/\St W w (Sep.pt r cs::own b h.length c 4 (m.flatMap dG)::R))
                      (λvs _=>match vs with|[.int _ j]=>h.length-j.toNat|_=>0) (j:Int) w2 (j:Int) (k:Int)):=by
  intro fG;unfold cV.j1;refine bE (λg1=>?_) (λg1=>?_)
  ·have:k=j:=by have:(k:Int)=j:=by simpa using g1
                omega
   subst this;refine hk m ?_ hp;rcases Eg with Eg|⟨hm,Gg,UB⟩
   ·exact .inl (Eg.heap fG)
   ·exact .inr ⟨hm,UB⟩
  ·have gU:k≠j:=by
    intro hh;subst hh;simp at g1
   obtain⟨h0,QW,x,y,gx,gy,hb⟩:=XG.resolve_left gU;have aaQ:HD m j:=by
    rcases Eg with Eg|⟨hm,Gg,UB⟩
    ·exact Eg
    ·subst hm;subst Gg;exact absurd hb (UB k h0 QW x y gx gy)
   repeat' first|apply ws;intros|apply wb|with_reducible refine jH hv ?_|fail
   refine bQ ⟨by omega,by omega⟩ λrb np=>?_;subst np;rw[adT];refine dx eX gx ?_
   repeat' first|apply ws;intros|apply wb|with_reducible refine jH hv ?_|fail
   refine oV ⟨by omega,by omega⟩ ?_;rw[adT];refine dx eX gy ?_;refine oV ⟨by omega,by omega⟩ ?_;rw[adT];refine cN rfl (mS eX (by omega) (mq _) ?_);refine oV ⟨by omega,by omega⟩ ?_;rw[adT];refine cN rfl (mS eX (by simp;omega) (mq _) ?_);refine λw3 h3=>⟨⟨k,PZ m j k y x,UA,by rw[I5];exact Gd,(Fi gy gx (λhh=>gU hh.symm)).trans hp,.inl (aaQ.step QW h0 gy gx hb fG),rfl,h3⟩,by show h.length-(k:Int).toNat<h.length-(j:Int).toNat;unfold par at QW;omega⟩
 refine dP (λg1=>?_) (λg1=>?_)
 ·have hle:d<=2* j+2:=by omega
  repeat' first|apply ws;intros|apply wb|with_reducible refine jH hv ?_|fail
  unfold cV.j2;refine dP (λg2=>?_) (λg2=>?_)
  ·have aZ:d<h.length:=by omega
   have gx:=adS (show d<m.length by omega);have gy:=adS (show k<m.length by omega);generalize m[d]=x at gx;generalize hmk:m[k]'(by omega)=y at gy;have hpd:par d=j:=by unfold par;omega
   have e5:=lY d
   repeat' first|apply ws;intros|apply wb|with_reducible refine jH hv ?_|fail
   refine bQ ⟨by omega,by omega⟩ λrb hb=>?_;subst hb;rw[adT];refine dx eX gx ?_
   repeat' first|apply ws;intros|apply wb|with_reducible refine jH hv ?_|fail
   refine oV ⟨by omega,by omega⟩ ?_;rw[adT];refine dx eX gy ?_
   repeat' first|apply ws;intros|apply wb|with_reducible first|refine GP ?_|refine tF hv ?_|fail
   rw[e5];refine dP (λg3=>?_) (λg3=>?_)
   ·have hb:=g3;refine λw3 h3=>⟨⟨d,d+1,by omega,by omega,.inr ⟨by omega,hpd,x,?_⟩,λq h0 hq rO a b' ha tY=>?_,aZ,rfl,h3⟩,by show 2* j+3-((d+1:Nat):Int).toNat<2* j+3-(d:Int).toNat;omega⟩
    ·rcases XG with rfl|⟨h0,QW,x1,y1,q1,q2,q3⟩
     ·exact⟨y,gx,gy,hb⟩
     ·rw[gy] at q1;cases q1
      exact⟨y1,gx,q2,GO hb q3⟩
    ·rw[gx] at tY;cases tY
     by_cases hqd:q=d
     ·subst hqd;rw[gx] at ha;cases ha;exact IC x
     ·exact Nt (uV q h0 hq (by omega) a y ha gy) hb
   ·have hb:=g3;refine λw3 h3=>⟨⟨k,d+1,by omega,by omega,XG,λq h0 hq rO=>?_,UA,rfl,h3⟩,by show 2* j+3-((d+1:Nat):Int).toNat<2* j+3-(d:Int).toNat;omega⟩;by_cases hqd:q=d
    ·subst hqd;intro a b' ha tY;rw[gx] at ha;rw[gy] at tY;cases ha;cases tY;exact hb
    ·exact uV q h0 hq (by omega)
  ·have gr:h.length<=d:=by omega
   refine out λq h0 hq a b' ha tY=>?_;have:=(adU.1 ha).1;exact uV q h0 hq (by omega) a b' ha tY
 ·have JO:2* j+2<d:=by omega
  unfold cV.j2;refine po ?_;exact out λq h0 hq=>uV q h0 hq (by unfold par at hq;omega)
def KH{z x:Item}{i n:Nat}(hl:h.length=n+1)(hi:i<n)(hz:h[n]?=some z)(hx:h[i]?=some x):(x::(h.set i z).take n).Perm h:=by
 have h1:=ur (y:=z) hx;have h2:h.set i z=(h.set i z).take n++[z]:=by
  conv=>lhs;rw[<-aem n (h.set i z)]
  congr 1
  have:(h.set i z)[n]?=some z:=by rw[aeo,if_neg (by omega)];exact hz
  rw[aex (by simp;omega),aez (by simp;omega)];rw[adS (by simp;omega)] at this;rw[aec.inj this]
 rw[h2] at h1;have h3:(x::((h.set i z).take n++[z])).Perm (z::x::(h.set i z).take n):=((ad1 (l₁:=(h.set i z).take n) (l₂:=[z])).cons x).trans (aej.swap _ _ _);exact(List.perm_cons z).1 (h3.symm.trans h1)
def Tz{α:Type}{r n c e o:Nat}{l:List α}{x:α}{g:α->LV}{f:HP->LH}[i:oQ (some ⟨r,0,none⟩) n c L e (l.flatMap g) f](hf:∀x,(g x).length=e)(hx:l[o]?=some x)(h:T W L X):T W L (kp ⟨r,o* e,none⟩ (g x) X):=λw hs=>by
 obtain⟨k,hk,_⟩:=i.at_;exact⟨yy hs hk (nI hf l o x hx),h w hs⟩
def T.Qc{A B C D:HP}(h:T W (A::B::C::D::R) X):T W (C::D::A::B::R) X:=T.perm h (ad1 (l₁:=[C,D]) (l₂:=[A,B])|>.append_right R)
def T.Sp{A B C:HP}(h:T W (A::B::C::R) X):T W (C::A::B::R) X:=T.perm h (ad1 (l₁:=[C]) (l₂:=[A,B])|>.append_right R)
def T.Sq{A B C:HP}(h:T W (A::B::C::R) X):T W (B::C::A::R) X:=T.perm h (ad1 (l₁:=[B,C]) (l₂:=[A])|>.append_right R)
def Tv{i:Nat}{x:Item}(hv:cs[o]?=some (.l b h.length c))(hl:h.length<100000)(hx:h[i]?=some x)(hh:qF h)
 (hk:∀h',qF h'->(x::h').Perm h->T W (Sep.pt r (cs.set o (.l b h'.length c))::own b h'.length c 4 (h'.flatMap dG)::R) (K (.agg ⟨dG x⟩))):
 T W (Sep.pt r cs::own b h.length c 4 (h.flatMap dG)::R) (mn (some ⟨r,o,none⟩) (i:Int) K):=by
 have hi:=(adU.1 hx).1;obtain⟨n,hn⟩:∃n,h.length=n+1:=⟨h.length-1,by omega⟩;have gz:=adS (show n<h.length by omega);generalize h[n]=z at gz;have e1:adP.wrap ((h.length:Int) -1)=(n:Int):=by rw[aw (by omega)];omega
 unfold mn
 repeat' first|apply ws;intros|apply wb|with_reducible refine jH hv ?_|fail
 refine bQ ⟨by omega,by omega⟩ λrb hb=>?_;subst hb;rw[adT];refine dx eX hx ?_
 repeat' first|apply ws;intros|apply wb|with_reducible first|refine jH hv ?_|refine tF hv ?_|fail
 refine Tz eX hx ?_
 repeat' first|apply ws;intros|apply wb|with_reducible first|refine jH hv ?_|refine tF hv ?_|fail
 rw[e1];refine oV ⟨by omega,by omega⟩ ?_;rw[adT];refine dx eX gz ?_;refine oV ⟨by omega,by omega⟩ ?_;rw[adT];refine cN rfl (mS eX hi (mq _) ?_)
 repeat' first|apply ws;intros|apply wb|with_reducible first|refine jH hv ?_|refine tF hv ?_|fail
 refine mP (b:=some ⟨rb,0,none⟩) λqL _=>?_;refine vn (by omega) ?_;refine wm (b:=some ⟨rb,0,none⟩) (i:=n) eX (by omega) ?_
 repeat' first|apply ws;intros|apply wb|with_reducible refine DG hv rfl ?_|fail
 have yQ:=pc (v:=.l (some ⟨rb,0,none⟩) n c) hv;refine dP (λg1=>?_) (λg1=>?_)
 ·have aZ:i<n:=by omega
  have hp:=KH hn aZ gz hx;have Gd:((h.set i z).take n).length=n:=by simp;omega
  rename_i r1 r2;refine T.Qc ?_;have key:HD ((h.set i z).take n) i\/HU ((h.set i z).take n) i/\Kids ((h.set i z).take n) i:=by
   by_cases h0:i=0
   ·exact .inl (IW hh hn aZ gz (.inl h0))
   ·have L5:par i<h.length:=by unfold par;omega
    have gy:=adS L5;generalize h[par i]=y at gy;by_cases hb:bf z y
    ·exact .inr (PR hh hn aZ gz (by omega) gy hb)
    ·refine .inl (IW hh hn aZ gz (.inr ?_));intro a b' ha np;have Hc:par i≠i:=by unfold par;omega
     have hpn:par i<n:=by unfold par;omega
     rw[afi,if_pos aZ,aeo,if_pos rfl,if_pos hi] at ha;rw[afi,if_pos hpn,aeo,if_neg (λh=>Hc h.symm),gy] at np;cases ha;cases np;exact hb
  generalize (h.set i z).take n=m at hp Gd key;subst Gd;refine Vf yQ (by omega) aZ (key.imp id (·.2)) λm2 JM F9=>?_;apply ws;intros;have QZ:=F9.length_eq;rw[<-QZ];have QR:=pc (v:=.l (some ⟨rb,0,none⟩) m2.length c) hv;have hu2:HU m2 i:=by
   rcases JM with JM|⟨rfl,UB⟩
   ·exact JM.hu i
   ·rcases key with k1|k1
    ·exact(k1.heap UB).hu i
    ·exact k1.1
  refine Wx QR (by omega) (by omega) hu2 λm3 hm3 hp3=>?_;apply ws;intros;have Ps:=hp3.length_eq;have:=hk m3 hm3 ((hp3.trans F9).cons x|>.trans hp);rw[Ps] at this;exact T.Qc (T.drop (T.drop this))
 ·have Wc:i=n:=by omega
  subst Wc;apply ws;intros;have hm:(h.set i z).take i=h.take i:=by rw[List.take_set_of_le (adY _)]
  rw[hm];have Gd:(h.take i).length=i:=by simp;omega
  have hh':qF (h.take i):=λj h0 a b' ha np=>by
   rw[afi] at ha np;split at ha
   ·split at np
    ·exact hh j h0 a b' ha np
    ·cases np
   ·cases ha
  have:=hk (h.take i) hh' (by
   conv=>rhs;rw[<-aem i h]
   have:h.drop i=[x]:=by
    rw[aex hi,aez (by omega)]
    rw[adS hi] at hx
    rw[aec.inj hx]
   rw[this]
   exact ad1 (l₁:=[x]) (l₂:=h.take i))
  rw[Gd] at this;exact T.dp this
def TV{x:Item}(hv:cs[o]?=some (.l b h.length c))(hl:h.length<10000)(hh:qF h)
 (hk:∀b' c' h',qF h'->h'.Perm (h++[x])->T W (Sep.pt r (cs.set o (.l b' h'.length c'))::own b' h'.length c' 4 (h'.flatMap dG)::R) (K (.tuple ⟨[]⟩))):
 T W (Sep.pt r cs::own b h.length c 4 (h.flatMap dG)::R) (iB (some ⟨r,o,none⟩) (dG x) K):=by
 unfold iB;refine qD λr1=>TD ?_
 repeat' first|apply ws;intros|apply wb|with_reducible first|refine jH hv ?_|refine tF hv ?_|fail
 refine gZ (x:=x) (by simp) rfl rfl (by omega) (by omega) (mq _) λb' c'=>?_
 repeat' first|apply ws;intros|apply wb|with_reducible first|refine DG hv rfl ?_|refine jH (pc hv) ?_|fail
 rename_i r2;have e1:adP.wrap (((h.length+1:Nat):Int) -1)=(h.length:Int):=by rw[aw (by omega)];omega
 rw[e1];refine T.Qc ?_;have hu:HU (h++[x]) h.length:=by
  refine⟨λj h0 hj a b' ha np=>?_,λj h0 hp hi a b' ha np=>?_⟩
  ·have aZ:=(adU.1 ha).1;simp at aZ;rw[aef (by omega)] at ha;rw[aef (by unfold par;omega)] at np;exact hh j h0 a b' ha np
  ·have aZ:=(adU.1 ha).1;simp at aZ;unfold par at hp;omega
 have yQ:=pc (v:=.l b' (h.length+1) c') hv;have Hf:(h++[x]).length=h.length+1:=by simp
 rw[<-Hf] at yQ⊢;refine Wx yQ (by omega) (by simp) hu λm hm hp=>?_;apply ws;intros;have:=hk b' c' m hm hp;rw[hp.length_eq] at this;exact T.Qc (T.drop (T.drop this))
def Qp{s:Int}(hv:cs[o]?=some (.l b h.length c))(hl:h.length<10000)(hh:qF h)
 (h1:∀x m,x.ae=s->qF m->(x::m).Perm h->T W (Sep.pt r (cs.set o (.l b m.length c))::own b m.length c 4 (m.flatMap dG)::R) (K (.bool true)))
 (h0:(∀x∈h,x.ae≠s)->T W (Sep.pt r cs::own b h.length c 4 (h.flatMap dG)::R) (K (.bool false))):
 T W (Sep.pt r cs::own b h.length c 4 (h.flatMap dG)::R) (iX (some ⟨r,o,none⟩) s K):=by
 unfold iX;refine tG ?_
 repeat' first|apply ws;intros|apply wb|with_reducible refine jH hv ?_|fail
 intro w hs;refine⟨λvs w=>∃(i:Nat),i<=h.length/\(∀j x,j<i->h[j]?=some x->x.ae≠s)/\vs=[.bool false,.l b h.length c,.i (h.length:Int),.i (i:Int)]/\St W w (Sep.pt r cs::own b h.length c 4 (h.flatMap dG)::R),
  λvs _=>match vs with|[_,_,_,.int _ d]=>h.length-d.toNat|_=>0,⟨0,ad2 _,(λj x hj=>by omega),rfl,hs⟩,?_⟩
 rintro b1 uR qe uQ n2 n3 w2 ⟨i,hi,Ed,e,hs⟩;cases e
 refine T.at ?_ hs;refine dP (λg1=>?_) (λg1=>?_)
 ·have aZ:i<h.length:=by omega
  have gx:=adS aZ;generalize h[i]=x at gx;have e5:=lY i;refine bQ ⟨by omega,by omega⟩ λrb hb=>?_;subst hb;rw[adT];refine dx eX gx ?_;apply ws;intros;rename_i r1;rw[e5];refine bE (λg2=>?_) (λg2=>?_)
  ·refine T.Sp ?_;refine Tv hv (by omega) gx hh λm hm hp=>?_;apply ws;intros;refine T.Sq (T.drop ?_);exact h1 x m (by simpa using g2) hm hp
  ·refine T.drop λw3 h3=>⟨⟨i+1,aZ,λj y hj hy=>?_,rfl,h3⟩,by show h.length-((i+1:Nat):Int).toNat<h.length-(i:Int).toNat;omega⟩;by_cases Gg:j=i
   ·subst Gg;rw[gx] at hy;cases hy;simpa using g2
   ·exact Ed j y (by omega) hy
 ·have gr:i=h.length:=by omega
  refine h0 λx hx=>?_;obtain⟨j,hj⟩:=afa hx;exact Ed j x (by have:=(adU.1 hj).1;omega) hj
end
class PE{α β:Type}(P:α->HP)(Q:β->HP)(L:LH)(x:outParam α)(y:outParam β)(F:outParam (α->β->LH)):Prop where
 at_:∃R:LH,L.Perm (P x::Q y::R)/\∀x' y',(F x' y').Perm (P x'::Q y'::R)
section
variable {α β:Type} {P:α->HP} {Q:β->HP} {L:LH} {x:α} {y:β}
def Lc.perm{f:α->LH}(h:Lc P L x f):∃R:LH,L.Perm (P x::R)/\∀x',(f x').Perm (P x'::R):=by
 obtain⟨k,h1,h2⟩:=h.at_;exact⟨L.eraseIdx k,oN h1,λy=>by rw[h2];exact(set_perm h1).symm⟩
instance(priority:=low) PE.tail{A:HP}{F:α->β->LH}[h:PE P Q L x y F]:PE P Q (A::L) x y (λa b=>A::F a b):=by
 obtain⟨R,h1,h2⟩:=h.at_;exact⟨A::R,(h1.cons A).trans ((aej.swap _ _ _).trans ((aej.swap _ _ _).cons _)),λa b=>((h2 a b).cons A).trans ((aej.swap _ _ _).trans ((aej.swap _ _ _).cons _))⟩
instance PE.adi{f:α->LH}[h:Lc P L x f]:PE P Q (Q y::L) x y (λa b=>Q b::f a):=by
 obtain⟨R,h1,h2⟩:=h.perm;exact⟨R,(h1.cons _).trans (aej.swap _ _ _),λa b=>((h2 a).cons _).trans (aej.swap _ _ _)⟩
def zJ{W:World}{X:WK}{F:α->β->LH}[i:PE P Q L x y F](h:∀R,(∀M a b Y,T W (M++F a b) Y->T W (M++P a::Q b::R) Y)->T W (P x::Q y::R) X):T W L X:=by
 obtain⟨R,h1,h2⟩:=i.at_;exact T.perm (h R λM a b Y hy=>T.perm hy ((h2 a b).symm.append_left M)) h1
end
def St.oq{W w:World}:∀(M R:LH),St W w (zl M::R)->St W w (M++R)
 |[],R,h=>h.drop
 |A::M,R,h=>(St.oq M (A::R) (h.split.perm (aej.swap _ _ _))).perm ae4
def St.mU{W w:World}:∀(M R:LH),St W w (M++R)->St W w (zl M::R)
 |[],R,h=>h.push trivial
 |A::M,R,h=>St.join ((St.mU M (A::R) (h.perm ae4.symm)).perm (aej.swap _ _ _))
structure Core where
 la:Nat
 lk:Nat
 ti:Nat
 tn:Nat
 vs:LV
 stamps:List ki
 ends:List Item
 clock:Int
 ae:Int
def fw(q:Core)(b1:OA)(c1:Nat)(b2:OA)(c2:Nat)(b3:OA)(n3 c3:Nat):LV:=
 [.l b1 q.vs.length c1,.p (some (ad q.la 0)),.p (some (ad q.lk 0)),.p (some (ad q.ti 0)),.p (some (ad q.tn 0)),.l b2 q.stamps.length c2,.l b3 n3 c3,.i q.clock,.i q.ae]
def coreS(p:Nat)(q:Core)(b1:OA)(c1:Nat)(b2:OA)(c2:Nat)(b3:OA)(c3:Nat)(h:List Item):LH:=
 [Sep.pt p (fw q b1 c1 b2 c2 b3 h.length c3),own b1 q.vs.length c1 1 q.vs,own b2 q.stamps.length c2 2 (q.stamps.flatMap k9),own b3 h.length c3 4 (h.flatMap dG)]
def dL(p:Nat)(q:Core):HP:=
 SY λz:(OA×Nat)×(OA×Nat)×(OA×Nat)×List Item=>LK (qF z.2.2.2/\z.2.2.2.Perm q.ends) (zl (coreS p q z.1.1 z.1.2 z.2.1.1 z.2.1.2 z.2.2.1.1 z.2.2.1.2 z.2.2.2))
def uh(q:Core)(o:Nat):Option Value:=match o with
 |1=>some (.p (some (ad q.la 0)))
 |2=>some (.p (some (ad q.lk 0)))
 |3=>some (.p (some (ad q.ti 0)))
 |4=>some (.p (some (ad q.tn 0)))
 |7=>some (.i q.clock)
 |8=>some (.i q.ae)
 |_=>none
section
variable {W:World} {L:LH} {K:VK} {X:WK} {p o:Nat} {q:Core} {f:Core->LH} {v:Value}
def Dx{R:LH}(hx:∀b1 c1 b2 c2 b3 c3 h,qF h->h.Perm q.ends->T W (Sep.pt p (fw q b1 c1 b2 c2 b3 h.length c3)::own b1 q.vs.length c1 1 q.vs::own b2 q.stamps.length c2 2 (q.stamps.flatMap k9)::own b3 h.length c3 4 (h.flatMap dG)::R) X):T W (dL p q::R) X:=λw hs=>by
 obtain⟨⟨⟨b1,c1⟩,⟨b2,c2⟩,⟨b3,c3⟩,hp⟩,hs⟩:=hs.ex;obtain⟨⟨h1,h2⟩,hs⟩:=hs.and;exact hx b1 c1 b2 c2 b3 c3 hp h1 h2 w (St.oq _ _ hs)
def vQ{R:LH}{b1:OA}{c1:Nat}{b2:OA}{c2:Nat}{b3:OA}{c3:Nat}{h:List Item}(h1:qF h)(h2:h.Perm q.ends)(hx:T W (dL p q::R) X):T W (Sep.pt p (fw q b1 c1 b2 c2 b3 h.length c3)::own b1 q.vs.length c1 1 q.vs::own b2 q.stamps.length c2 2 (q.stamps.flatMap k9)::own b3 h.length c3 4 (h.flatMap dG)::R) X:=λw hs=>
 hx w (St.nJ ((b1,c1),(b2,c2),(b3,c3),h) (St.and_intro ⟨h1,h2⟩ (St.mU _ _ hs)))
def zH{α:Type}{P:α->HP}{a:α}{f:α->LH}[i:Lc P L a f](h:∀R,(∀M y Y,T W (M++f y) Y->T W (M++P y::R) Y)->T W (P a::R) X):T W L X:=by
 obtain⟨R,h1,h2⟩:=i.perm;exact T.perm (h R λM y Y hy=>T.perm hy ((h2 y).symm.append_left M)) h1
def T.DO{R:LH}{A B C:HP}(h:T W (A::C::B::R) X):T W (A::B::C::R) X:=T.perm h ((aej.swap _ _ _).cons _)
def T.HF{R:LH}{A B C D:HP}(h:T W (A::D::B::C::R) X):T W (A::B::C::D::R) X:=T.perm h ((ad1 (l₁:=[B,C]) (l₂:=[D])|>.append_right R).cons _)
def T.AF{R:LH}{A B C D:HP}(h:T W (A::B::C::D::R) X):T W (A::D::B::C::R) X:=T.perm h ((ad1 (l₁:=[D]) (l₂:=[B,C])|>.append_right R).cons _)
def mz[i:Lc (dL p) L q f](hx:∀b1 c1 b2 c2 b3 c3 h R,qF h->h.Perm q.ends->
 (∀M q' b1 c1 b2 c2 b3 c3 h Y,qF h->h.Perm q'.ends->T W (M++f q') Y->T W (M++Sep.pt p (fw q' b1 c1 b2 c2 b3 h.length c3)::own b1 q'.vs.length c1 1 q'.vs::own b2 q'.stamps.length c2 2 (q'.stamps.flatMap k9)::own b3 h.length c3 4 (h.flatMap dG)::R) Y)->T W (Sep.pt p (fw q b1 c1 b2 c2 b3 h.length c3)::own b1 q.vs.length c1 1 q.vs::own b2 q.stamps.length c2 2 (q.stamps.flatMap k9)::own b3 h.length c3 4 (h.flatMap dG)::R) X):T W L X:=
 zH (P:=dL p) λR hc=>Dx λb1 c1 b2 c2 b3 c3 h h1 h2=>hx b1 c1 b2 c2 b3 c3 h R h1 h2 λM q' b1 c1 b2 c2 b3 c3 h Y g1 g2 hy=>
  T.perm (vQ (R:=M++R) g1 g2 (T.perm (hc M q' Y hy) (ae4.symm))) (by
   have:=ad1 (l₁:=M) (l₂:=[Sep.pt p (fw q' b1 c1 b2 c2 b3 h.length c3),own b1 q'.vs.length c1 1 q'.vs,own b2 q'.stamps.length c2 2 (q'.stamps.flatMap k9),own b3 h.length c3 4 (h.flatMap dG)])|>.append_right R
   simpa using this)
def xi{b1:OA}{c1:Nat}{b2:OA}{c2:Nat}{b3:OA}{c3 n:Nat}(hv:uh q o=some v):(fw q b1 c1 b2 c2 b3 n c3)[o]?=some v:=by
 unfold uh at hv;split at hv<;>first|exact hv|cases hv
def WI[i:Lc (dL p) L q f](hv:uh q o=some v)(h:T W L (K v)):T W L (ld ⟨p,o,none⟩ K):=by
 have hL:f q=L:=i.same;refine mz (p:=p) λb1 c1 b2 c2 b3 c3 hp R h1 h2 hc=>?_;refine jH (r:=p) (xi hv) ?_;exact hc [] q _ _ _ _ _ _ _ _ h1 h2 (by rw[hL];exact h)
def WJ[i:Lc (dL p) L q f](hv:uh q o=some v)(h:T W L X):T W L (kp ⟨p,o,none⟩ [v] X):=by
 have hL:f q=L:=i.same;refine mz (p:=p) λb1 c1 b2 c2 b3 c3 hp R h1 h2 hc=>?_;refine tF (r:=p) (xi hv) ?_;exact hc [] q _ _ _ _ _ _ _ _ h1 h2 (by rw[hL];exact h)
class Gc(q:Core)(o:Nat)(v:outParam Value):Prop where
 is:uh q o=some v
instance:Gc q 1 (.p (some (ad q.la 0))):=⟨rfl⟩
instance:Gc q 2 (.p (some (ad q.lk 0))):=⟨rfl⟩
instance:Gc q 3 (.p (some (ad q.ti 0))):=⟨rfl⟩
instance:Gc q 4 (.p (some (ad q.tn 0))):=⟨rfl⟩
instance:Gc q 7 (.i q.clock):=⟨rfl⟩
instance:Gc q 8 (.i q.ae):=⟨rfl⟩
instance[i:Lc (dL p) L q f][g:Gc q o v]:Lv L p o v:=⟨λh=>WI (i:=i) g.is h,λh=>WJ (i:=i) g.is h⟩
def Hs[i:Lc (dL p) L q f]{t:Int}(h:T W (f {q with clock:=t}) X):T W L (st ⟨p,7,none⟩ (.i t) X):=by
 refine mz (p:=p) λb1 c1 b2 c2 b3 c3 hp R h1 h2 hc=>?_;unfold fw;apply ws;intros;exact hc [] {q with clock:=t} _ _ _ _ _ _ _ _ h1 h2 h
def Hr[i:Lc (dL p) L q f]{t:Int}(h:T W (f {q with ae:=t}) X):T W L (st ⟨p,8,none⟩ (.i t) X):=by
 refine mz (p:=p) λb1 c1 b2 c2 b3 c3 hp R h1 h2 hc=>?_;unfold fw;apply ws;intros;exact hc [] {q with ae:=t} _ _ _ _ _ _ _ _ h1 h2 h
def ry[i:Lc (dL p) L q f](hl:q.vs.length<1000000)(h1v:v.oneCell'=true)(hcv:cT v=[v])(h:T W (f {q with vs:=q.vs++[v]}) (K (.tuple ⟨[]⟩))):T W L (eo (some ⟨p,0,none⟩) v K):=by
 refine mz (p:=p) λb1 c1 b2 c2 b3 c3 hp R h1 h2 hc=>?_;unfold eo fw;rw[hcv];apply ws;intros;refine MQ (ys:=[v]) (n:=q.vs.length) (bytes:=8) rfl rfl (by omega) (λu hu=>by simp at hu;rw[hu];exact h1v) (λb' c'=>?_) (by omega);apply ws;intros;have:=hc [] {q with vs:=q.vs++[v]} b' c' b2 c2 b3 c3 hp _ h1 h2 h;unfold fw at this;simp only[adV,aff] at this;exact T.drop this
def VD[i:Lc (dL p) L q f](h:T W L (K (.i (q.vs.length:Int)))):T W L (oH (some ⟨p,0,none⟩) K):=by
 have hL:f q=L:=i.same;refine mz (p:=p) λb1 c1 b2 c2 b3 c3 hp R h1 h2 hc=>?_;unfold oH fw;apply ws;intros;exact hc [] q _ _ _ _ _ _ _ _ h1 h2 (by rw[hL];exact h)
def JX[i:Lc (dL p) L q f]{s a:Int}(hr:oF q.stamps)(hl:q.stamps.length<1099511627)(hs:∀x∈q.stamps,x.1<s)(h:T W (f {q with stamps:=q.stamps++[(s,a)]}) (K (.bool true))):T W L (fy (some ⟨p,5,none⟩) s a K):=by
 refine mz (p:=p) λb1 c1 b2 c2 b3 c3 hp R h1 h2 hc=>?_;refine T.DO ?_;refine TY rfl hr hl hs λb' c'=>?_;refine T.DO ?_;have:=hc [] {q with stamps:=q.stamps++[(s,a)]} b1 c1 b' c' b3 c3 hp _ h1 h2 h;simp only[fw,adV,aff] at this;exact this
def Oo[i:Lc (dL p) L q f]{s a:Int}{l0:List ki}(hr:oF q.stamps)(hl:q.stamps.length<1099511627)(hs:q.stamps=l0++[(s,a)])(h:T W (f {q with stamps:=l0}) (K (.bool true))):T W L (fF (some ⟨p,5,none⟩) s K):=by
 refine mz (p:=p) λb1 c1 b2 c2 b3 c3 hp R h1 h2 hc=>?_;refine T.DO ?_;refine Qs rfl hr hl hs λb' c'=>?_;refine T.DO ?_;exact hc [] {q with stamps:=l0} b1 c1 b' c' b3 c3 hp _ h1 h2 h
def Ly[i:Lc (dL p) L q f]{from_ to:Int}{uH:Bool}(hr:oF q.stamps)(hl:q.stamps.length<100000)
 (h:∀b' c' out,out=(if uH then(mA from_ to q.stamps).reverse else mA from_ to q.stamps)->T W (own b' out.length c' 2 (out.flatMap k9)::L) (K (.l b' out.length c'))):T W L (dh (some ⟨p,5,none⟩) from_ to uH K):=by
 have hL:f q=L:=i.same;refine mz (p:=p) λb1 c1 b2 c2 b3 c3 hp R h1 h2 hc=>?_;refine Nq (b:=b2) (c:=c2) rfl hr hl λb' c' out ho=>?_;exact hc [_] q b1 c1 b2 c2 b3 c3 hp _ h1 h2 (by rw[hL];exact h b' c' out ho)
def Ew[i:Lc (dL p) L q f]{x:Item}{e':List Item}(hl:q.ends.length<10000)(he:e'.Perm (q.ends++[x]))(h:T W (f {q with ends:=e'}) (K (.tuple ⟨[]⟩))):T W L (iB (some ⟨p,6,none⟩) (dG x) K):=by
 refine mz (p:=p) λb1 c1 b2 c2 b3 c3 hp R h1 h2 hc=>?_;refine T.HF ?_;refine TV rfl (by rw[h2.length_eq];exact hl) h1 λb' c' h' g1 g2=>?_;refine T.AF ?_;exact hc [] {q with ends:=e'} b1 c1 b2 c2 b' c' h' _ g1 (g2.trans ((h2.append_right _).trans he.symm)) h
def GD[i:Lc (dL p) L q f]{s:Int}(hl:q.ends.length<10000)
 (h1:∀x e',x.ae=s->(x::e').Perm q.ends->T W (f {q with ends:=e'}) (K (.bool true)))(h0:(∀x∈q.ends,x.ae≠s)->T W L (K (.bool false))):T W L (iX (some ⟨p,6,none⟩) s K):=by
 have hL:f q=L:=i.same;rw[<-hL] at h0;refine mz (p:=p) λb1 c1 b2 c2 b3 c3 hp R g1 g2 hc=>?_;refine T.HF ?_;refine Qp rfl (by rw[g2.length_eq];exact hl) g1 (λx m hx hm hpm=>?_) (λEd=>?_)
 ·refine T.AF ?_;exact hc [] {q with ends:=m} b1 c1 b2 c2 b3 c3 m _ hm (aej.refl _) (h1 x m hx (hpm.trans g2))
 ·refine T.AF ?_;exact hc [] q b1 c1 b2 c2 b3 c3 hp _ g1 g2 (h0 λx hx=>Ed x (g2.mem_iff.2 hx))
end
def eY(a:aP):(ak a).length=14:=rfl
def rK(k:Kept):(aJ k).length=33:=rfl
section
variable {x1 x2 x3 x4 x5 x6 x7 x8 x9 zF zE zD zC Cw G7 G6 PG PF Tm Tl Tk Tj Ti Th Tg Tf Te Td Z7 Z6 Z5 Z4 Z3:Value} {k k':Kept} {i:Int} {m t:Move}
def zK:Kept:=⟨zT,zT,0⟩
instance:Wr [x1,x2,x3,x4,x5,x6,x7,x8,x9,zF,zE,zD,zC,Cw,G7,G6,PG,PF,Tm,Tl,Tk,Tj,Ti,Th,Tg,Tf,Te,Td,Z7,Z6,Z5,Z4,Z3] 0 (aJ k) (aJ k):=⟨rfl,adY _,jf k⟩
instance:Wr (aJ k) 0 (aJ k') (aJ k'):=⟨rfl,adY _,jf k'⟩
instance:Wr [x1,x2,x3,x4,x5,x6,x7,x8,x9,zF,zE,zD,zC,Cw,G7,G6,PG,PF,Tm,Tl,Tk,Tj,Ti,Th,Tg,Tf,Te,Td,Z7,Z6,Z5,Z4,Z3] 0 [.u 0,.u 0,.u 0,.u 0,.u 0,.u 0,.u 0,.u 0,.u 0,.u 0,.i 0,.i 0,.i 0,.i 0,.i 0,.i 0,.u 0,.u 0,.u 0,.u 0,.u 0,.u 0,.u 0,.u 0,.u 0,.u 0,.i 0,.i 0,.i 0,.i 0,.i 0,.i 0,.i 0] (aJ zK):=⟨rfl,adY _,jf zK⟩
instance:Wr (aJ k) 32 [.i i] (aJ {k with fate:=i}):=⟨rfl,by show 33<=33;decide,λv h=>by simp at h;subst h;rfl⟩
instance:Wr (aJ k) 30 [.i i] (aJ {k with move:={k.move with ae:=i}}):=⟨rfl,by show 31<=33;decide,λv h=>by simp at h;subst h;rfl⟩
instance:Wr (aJ k) 31 [.i i] (aJ {k with move:={k.move with born:=i}}):=⟨rfl,by show 32<=33;decide,λv h=>by simp at h;subst h;rfl⟩
instance:Sub (aJ k) 16 2 (nm k.move.id):=⟨uP rfl rfl⟩
instance:Wr [x1,x2,x3,x4,x5,x6,x7,x8,x9,zF,zE,zD,zC,Cw,G7,G6,PG,PF,Tm,Tl,Tk,Tj,Ti,Th,Tg,Tf,Te,Td,Z7,Z6,Z5,Z4,Z3] 0 (ai m++(ai t++[.i i])) (aJ ⟨m,t,i⟩):=⟨rfl,adY _,jf ⟨m,t,i⟩⟩
end
class PD(M L:LH):Prop where
 is:M.Sublist L
instance{L:LH}:PD L L:=⟨ad7.refl _⟩
instance(priority:=low){M L:LH}{A:HP}[h:PD M L]:PD M (A::L):=⟨h.is.cons A⟩
instance{M L:LH}{A:HP}[h:PD M L]:PD (A::M) (A::L):=⟨h.is.cons_cons A⟩
instance{R L:LH}[h:PD R L]:PD ([]++R) L:=⟨h.is⟩
instance{M R L:LH}{A:HP}[h:PD (A::(M++R)) L]:PD (A::M++R) L:=⟨h.is⟩
def nh{M L:LH}[h:PD M L]:M.Sublist L:=h.is
def T.sub{W:World}{L M:LH}{X:WK}(h:T W M X)(s:M.Sublist L):T W L X:=by
 obtain⟨D,hD⟩:=s.exists_perm_append;have key:∀(D:LH),T W (D++M) X:=λD=>by
  induction D with
  |nil=>exact h
  |cons A D ih=>exact T.drop ih
 exact T.perm (key D) (hD.trans ad1)
def nY{α:Type}(g:α->LV)(e l:Nat)(x:Nat×List α):HP:=
 SY λz:OA×Nat=>zl [Sep.pt l [.l z.1 x.2.length z.2,.p (some (ad x.1 0))],own z.1 x.2.length z.2 e (x.2.flatMap g)]
def nC{W:World}{L:LH}{α:Type}{b b':OA}{n c m c1 e bytes:Nat}{zero:LV}{l0 l1:List α}{g:α->LV}{f f':HP->LH}{K:OA->Nat->Nat->WK}[i:oQ b n c L e (l0.flatMap g) f][j:oQ b' m c1 L e (l1.flatMap g) f'](hg:∀x,(g x).length=e)(hz:zero.length=e)
 (hb:(n+m)* bytes<=140737488355328/\n+m<=9223372036854775807)(h1:∀x,∀v∈g x,v.oneCell'=true)(h:∀b2 c2,T W (f (own b2 (n+m) c2 e ((l0++l1).flatMap g))) (K b2 (n+m) c2)):T W L (eS e bytes zero b n c b' m K):=λw hs=>by
 obtain⟨k,hk,e1⟩:=i.at_;obtain⟨k2,rl,_⟩:=j.at_;obtain⟨vG,kH⟩:=J9 (m:=m) hs rl;refine pX hs hk vG kH hz hb.1 hb.2 (λv hv=>?_) λb2 c2 w' h'=>h b2 c2 w' (by rw[e1,aeP];exact h');obtain⟨x,_,hx⟩:=List.mem_flatMap.1 hv;exact h1 x v hx
section
variable {W:World} {L R:LH} {K:VK} {X:WK} {α:Type} {g:α->LV} {e l p:Nat} {items:List α} {f:Nat×List α->LH}
def nE(h:∀b c,T W (Sep.pt l [.l b items.length c,.p (some (ad p 0))]::own b items.length c e (items.flatMap g)::R) X):T W (nY g e l (p,items)::R) X:=λw hs=>by
 obtain⟨⟨b,c⟩,hs⟩:=hs.ex;exact h b c w (St.oq _ _ hs)
def pQ{b:OA}{n c:Nat}(hn:n=items.length)(h:T W (nY g e l (p,items)::R) X):T W (Sep.pt l [.l b n c,.p (some (ad p 0))]::own b n c e (items.flatMap g)::R) X:=λw hs=>by
 subst hn;exact h w (St.nJ (b,c) (St.mU _ _ hs))
def sA{M:LH}{b:OA}{n c:Nat}(hn:n=items.length)(h:T W (M++nY g e l (p,items)::R) X):T W (M++Sep.pt l [.l b n c,.p (some (ad p 0))]::own b n c e (items.flatMap g)::R) X:=
 T.perm (pQ (g:=g) (e:=e) (l:=l) (p:=p) (R:=M++R) hn (T.perm h ae4.symm)) (by
  have:=ad1 (l₁:=M) (l₂:=[Sep.pt l [.l b n c,.p (some (ad p 0))],own b n c e (items.flatMap g)])|>.append_right R
  simpa using this)
def CD[i:Lc (nY g e l) L (p,items) f](h:∀b c R,(∀M b' n' c' Bd Y,n'=Bd.length->T W (M++f (p,Bd)) Y->T W (M++Sep.pt l [.l b' n' c',.p (some (ad p 0))]::own b' n' c' e (Bd.flatMap g)::R) Y)->
 T W (Sep.pt l [.l b items.length c,.p (some (ad p 0))]::own b items.length c e (items.flatMap g)::R) X):T W L X:=
 zH (P:=nY g e l) λR hc=>nE λb c=>h b c R λM b' n' c' Bd Y hn hy=>
  T.perm (pQ (g:=g) (e:=e) (l:=l) (p:=p) (R:=M++R) hn (T.perm (hc M _ Y hy) ae4.symm)) (by
   have:=ad1 (l₁:=M) (l₂:=[Sep.pt l [.l b' n' c',.p (some (ad p 0))],own b' n' c' e (Bd.flatMap g)])|>.append_right R
   simpa using this)
end
section
variable {W:World} {L R:LH} {K:VK} {X:WK} {l p:Nat} {items:List aP} {f:Nat×List aP->LH} {F:Nat×List aP->Core->LH} {q:Core} {x y:aP}
def IN[i:Lc (nY ak 14 l) L (p,items) f](h:T W L (K (.i (items.length:Int)))):T W L (dc (some ⟨l,0,none⟩) K):=by
 have hL:f (p,items)=L:=i.same;refine CD (g:=ak) (e:=14) (l:=l) λb c R hc=>?_;unfold dc;apply ws;intros;exact hc [] _ _ _ _ _ rfl (by rw[hL];exact h)
def Pc{b:OA}{c:Nat}{v:Value}{n:Nat}{f1:LV->LH}{f2:HP->LH}[i:Lc (Sep.pt l) L [.l b items.length c,v] f1][j:oQ b items.length c L 14 (items.flatMap ak) f2](hx:items[n]?=some x)(hl:items.length<1000000)
 (h:T W L (K (.tuple ⟨[.agg ⟨ak x⟩,.bool true]⟩))):T W L (bV (some ⟨l,0,none⟩) (n:Int) K):=by
 have aZ:=(adU.1 hx).1;unfold bV;apply ws;intros;refine dV (by simp) ?_;unfold dc;apply ws;intros;unfold bV.j1;refine dV (by simp;omega) ?_;apply ws;intros;refine bQ ⟨by omega,by omega⟩ λr hr=>?_;subst hr;rw[adT];refine dx eY hx ?_;apply ws;intros;exact T.dp h
def Zj[i:Lc (nY ak 14 l) L (p,items) f]{n:Nat}(hx:items[n]?=some x)(hl:items.length<1000000)(h:T W L (K (.tuple ⟨[.agg ⟨ak x⟩,.bool true]⟩))):T W L (bV (some ⟨l,0,none⟩) (n:Int) K):=by
 have hL:f (p,items)=L:=i.same;refine CD (g:=ak) (e:=14) (l:=l) λb c R hc=>?_;refine Pc hx hl ?_;exact hc [] _ _ _ _ _ rfl (by rw[hL];exact h)
abbrev xm(r1 r3:Nat):Value:=.func (.func N.aY) ⟨[]⟩ ⟨[.p (some (ad r1 0)),.p (some (ad r3 0))]⟩
abbrev Aa(r4 r1 r2:Nat):Value:=.func (.func N.aX) ⟨[]⟩ ⟨[.p (some (ad r4 0)),.p (some (ad r1 0)),.p (some (ad r2 0))]⟩
def Pd[i:Lc (nY ak 14 l) L (p,items) f][j:PE (nY ak 14 l) (dL p) L (p,items) q F](hl:items.length<1000000)(hv:q.vs.length<1000000)
 (h:∀r1 r3,T W (Sep.pt r3 [.i (items.length:Int)]::Sep.pt r1 [.p (some (ad l 0))]::F (p,items++[x]) {q with vs:=q.vs++[xm r1 r3]}) (K (.i (items.length:Int)))):
 T W L (fb (some ⟨l,0,none⟩) (ak x) K):=by
 refine zJ (P:=nY ak 14 l) (Q:=dL p) λR hc=>?_;refine nE λb c=>?_;unfold fb;apply ws;intros;refine gZ (x:=x) (by simp) rfl rfl (by omega) (by omega) (eV _) λb' c'=>?_;apply ws;intros;refine ry (p:=p) hv rfl rfl ?_;apply ws;intros;rename_i r1 r2 r3 r4;refine T.sub (M:=[Sep.pt r3 _,Sep.pt r1 _]++Sep.pt l _::own b' _ c' 14 _::dL p _::R) ?_ (by repeat (first|exact ad7.refl _|apply ad7.cons_cons|apply ad7.cons));exact sA (by simp) (hc [_,_] _ _ _ (h r1 r3))
def VO[i:Lc (nY ak 14 l) L (p,items) f][j:PE (nY ak 14 l) (dL p) L (p,items) q F]{n:Nat}(hx:items[n]?=some y)(hl:items.length<1000000)(hv:q.vs.length<1000000)
 (h:∀r4 r1 r2,T W (Sep.pt r4 (ak y)::Sep.pt r2 [.i (n:Int)]::Sep.pt r1 [.p (some (ad l 0))]::F (p,items.set n x) {q with vs:=q.vs++[Aa r4 r1 r2]}) (K (.bool true))):
 T W L (gF (some ⟨l,0,none⟩) (n:Int) (ak x) K):=by
 have aZ:=(adU.1 hx).1;refine zJ (P:=nY ak 14 l) (Q:=dL p) λR hc=>?_;refine nE λb c=>?_;unfold gF
 repeat' first|apply ws;intros|apply wb|with_reducible refine Pc hx hl ?_|fail
 refine bQ ⟨by omega,by omega⟩ λr hr=>?_;subst hr;rw[adT];refine cN rfl (mS eY aZ (eV _) ?_);apply ws;intros;refine ry (p:=p) hv rfl rfl ?_;apply ws;intros;rename_i r1 r2 r3 r4;refine T.sub (M:=[Sep.pt r4 _,Sep.pt r2 _,Sep.pt r1 _]++Sep.pt l _::own (some ⟨r,0,none⟩) _ c 14 _::dL p _::R) ?_ (by repeat (first|exact ad7.refl _|apply ad7.cons_cons|apply ad7.cons));exact sA (by simp) (hc [_,_,_] _ _ _ (h r4 r1 r2))
def VP[i:Lc (nY ak 14 l) L (p,items) f](hl:items.length<1000000)(h:∀b c,T W (own b items.length c 14 (items.flatMap ak)::L) (K (.l b items.length c))):T W L (gG (some ⟨l,0,none⟩) K):=by
 have hL:f (p,items)=L:=i.same;refine CD (g:=ak) (e:=14) (l:=l) λb c R hc=>?_;unfold gG;apply ws;intros;refine eW (e:=14) ?_;refine nC (b:=none) (l0:=([]:List aP)) (l1:=items) eY rfl (by omega) eV λb' c'=>?_;have:=hc [own b' items.length c' 14 (items.flatMap ak)] b items.length c items _ rfl (by rw[hL];exact h b' c');simpa using this
end
section
variable {W:World} {L R:LH} {K:VK} {X:WK} {l p:Nat} {items:List Kept} {f:Nat×List Kept->LH} {F:Nat×List Kept->Core->LH} {q:Core} {x y:Kept}
def II[i:Lc (nY aJ 33 l) L (p,items) f](h:T W L (K (.i (items.length:Int)))):T W L (dj (some ⟨l,0,none⟩) K):=by
 have hL:f (p,items)=L:=i.same;refine CD (g:=aJ) (e:=33) (l:=l) λb c R hc=>?_;unfold dj;apply ws;intros;exact hc [] _ _ _ _ _ rfl (by rw[hL];exact h)
def O5{b:OA}{c:Nat}{v:Value}{n:Nat}{f1:LV->LH}{f2:HP->LH}[i:Lc (Sep.pt l) L [.l b items.length c,v] f1][j:oQ b items.length c L 33 (items.flatMap aJ) f2](hx:items[n]?=some x)(hl:items.length<1000000)
 (h:T W L (K (.tuple ⟨[.agg ⟨aJ x⟩,.bool true]⟩))):T W L (bT (some ⟨l,0,none⟩) (n:Int) K):=by
 have aZ:=(adU.1 hx).1;unfold bT;apply ws;intros;refine dV (by simp) ?_;unfold dj;apply ws;intros;unfold bT.j1;refine dV (by simp;omega) ?_;apply ws;intros;refine bQ ⟨by omega,by omega⟩ λr hr=>?_;subst hr;rw[adT];refine dx rK hx ?_;apply ws;intros;exact T.dp h
def O4[i:Lc (nY aJ 33 l) L (p,items) f]{n:Nat}(hx:items[n]?=some x)(hl:items.length<1000000)(h:T W L (K (.tuple ⟨[.agg ⟨aJ x⟩,.bool true]⟩))):T W L (bT (some ⟨l,0,none⟩) (n:Int) K):=by
 have hL:f (p,items)=L:=i.same;refine CD (g:=aJ) (e:=33) (l:=l) λb c R hc=>?_;refine O5 hx hl ?_;exact hc [] _ _ _ _ _ rfl (by rw[hL];exact h)
abbrev qV(r1 r3:Nat):Value:=.func (.func N.bq) ⟨[]⟩ ⟨[.p (some (ad r1 0)),.p (some (ad r3 0))]⟩
abbrev xk(r4 r1 r2:Nat):Value:=.func (.func N.bp) ⟨[]⟩ ⟨[.p (some (ad r4 0)),.p (some (ad r1 0)),.p (some (ad r2 0))]⟩
def O6[i:Lc (nY aJ 33 l) L (p,items) f][j:PE (nY aJ 33 l) (dL p) L (p,items) q F](hl:items.length<1000000)(hv:q.vs.length<1000000)
 (h:∀r1 r3,T W (Sep.pt r3 [.i (items.length:Int)]::Sep.pt r1 [.p (some (ad l 0))]::F (p,items++[x]) {q with vs:=q.vs++[qV r1 r3]}) (K (.i (items.length:Int)))):
 T W L (fU (some ⟨l,0,none⟩) (aJ x) K):=by
 refine zJ (P:=nY aJ 33 l) (Q:=dL p) λR hc=>?_;refine nE λb c=>?_;unfold fU;apply ws;intros;refine gZ (x:=x) (by simp) rfl rfl (by omega) (by omega) (jf _) λb' c'=>?_;apply ws;intros;refine ry (p:=p) hv rfl rfl ?_;apply ws;intros;rename_i r1 r2 r3 r4;refine T.sub (M:=[Sep.pt r3 _,Sep.pt r1 _]++Sep.pt l _::own b' _ c' 33 _::dL p _::R) ?_ (by repeat (first|exact ad7.refl _|apply ad7.cons_cons|apply ad7.cons));exact sA (by simp) (hc [_,_] _ _ _ (h r1 r3))
def VF[i:Lc (nY aJ 33 l) L (p,items) f][j:PE (nY aJ 33 l) (dL p) L (p,items) q F]{n:Nat}(hx:items[n]?=some y)(hl:items.length<1000000)(hv:q.vs.length<1000000)
 (h:∀r4 r1 r2,T W (Sep.pt r4 (aJ y)::Sep.pt r2 [.i (n:Int)]::Sep.pt r1 [.p (some (ad l 0))]::F (p,items.set n x) {q with vs:=q.vs++[xk r4 r1 r2]}) (K (.bool true))):
 T W L (iK (some ⟨l,0,none⟩) (n:Int) (aJ x) K):=by
 have aZ:=(adU.1 hx).1;refine zJ (P:=nY aJ 33 l) (Q:=dL p) λR hc=>?_;refine nE λb c=>?_;unfold iK
 repeat' first|apply ws;intros|apply wb|with_reducible refine O5 hx hl ?_|fail
 refine bQ ⟨by omega,by omega⟩ λr hr=>?_;subst hr;rw[adT];refine cN rfl (mS rK aZ (jf _) ?_);apply ws;intros;refine ry (p:=p) hv rfl rfl ?_;apply ws;intros;rename_i r1 r2 r3 r4;refine T.sub (M:=[Sep.pt r4 _,Sep.pt r2 _,Sep.pt r1 _]++Sep.pt l _::own (some ⟨r,0,none⟩) _ c 33 _::dL p _::R) ?_ (by repeat (first|exact ad7.refl _|apply ad7.cons_cons|apply ad7.cons));exact sA (by simp) (hc [_,_,_] _ _ _ (h r4 r1 r2))
def VH[i:Lc (nY aJ 33 l) L (p,items) f](hl:items.length<1000000)(h:∀b c,T W (own b items.length c 33 (items.flatMap aJ)::L) (K (.l b items.length c))):T W L (iL (some ⟨l,0,none⟩) K):=by
 have hL:f (p,items)=L:=i.same;refine CD (g:=aJ) (e:=33) (l:=l) λb c R hc=>?_;unfold iL;apply ws;intros;refine eW (e:=33) ?_;refine nC (b:=none) (l0:=([]:List Kept)) (l1:=items) rK rfl (by omega) jf λb' c'=>?_;have:=hc [own b' items.length c' 33 (items.flatMap aJ)] b items.length c items _ rfl (by rw[hL];exact h b' c');simpa using this
end
def rr(bx:List (Nat×LV)):HP:=zl (bx.map λx=>Sep.pt x.1 x.2)
def St.M0{W w:World}{M R:LH}{A:HP}(h:St W w (zl M::R))(hm:A∈M):∃R',St W w (A::R')/\∀w',St W w' (A::R')->St W w' (zl M::R):=by
 obtain⟨k,hk⟩:=afa hm;have p:=oN hk;exact⟨M.eraseIdx k++R,(St.oq M R h).perm (p.append_right R),λw' h'=>St.mU M R (h'.perm (p.symm.append_right R))⟩
section
variable {W:World} {L:LH} {K:VK} {X:WK} {r o n:Nat} {cs xs:LV} {v:Value} {bx:List (Nat×LV)} {f:List (Nat×LV)->LH}
def BK(hm:(r,cs)∈bx)[i:Lc rr L bx f]{w:World}(hs:St W w L):∃R,St W w (Sep.pt r cs::R):=by
 obtain⟨k,hk,_⟩:=i.at_;obtain⟨R,h1,_⟩:=St.M0 (M:=bx.map λx=>Sep.pt x.1 x.2) (hs.focus hk) (aeC.2 ⟨(r,cs),hm,rfl⟩);exact⟨R,h1⟩
def nX[i:Lc rr L bx f](hm:(r,cs)∈bx)(hv:cs[o]?=some v)(h:T W L (K v)):T W L (ld ⟨r,o,none⟩ K):=λw hs=>by
 obtain⟨R,hr⟩:=BK hm hs;exact bJ hr (k:=0) rfl hv (h w hs)
def Au[i:Lc rr L bx f](hm:(r,cs)∈bx)(hv:cs[o]?=some v)(h:T W L X):T W L (kp ⟨r,o,none⟩ [v] X):=λw hs=>by
 obtain⟨R,hr⟩:=BK hm hs;exact gB hr (k:=0) rfl hv (h w hs)
def Ar{K:LV->WK}[i:Lc rr L bx f](hm:(r,cs)∈bx)[s:Sub cs o n xs](h:T W L (K xs)):T W L (ah ⟨r,o,none⟩ n K):=λw hs=>by
 obtain⟨R,hr⟩:=BK hm hs;exact fZ hr (k:=0) rfl s.is.1 s.is.2 (h w hs)
def cz[i:Lc rr L bx f](h:T W (f ((r,cs)::bx)) X):T W (Sep.pt r cs::L) X:=by
 obtain⟨R,h1,h2⟩:=i.perm;refine T.perm (λw hs=>?_) (h1.cons _);refine T.perm h (h2 _).symm w (St.mU (((r,cs)::bx).map λx=>Sep.pt x.1 x.2) R ?_);exact(St.oq (bx.map λx=>Sep.pt x.1 x.2) (Sep.pt r cs::R) (hs.perm (aej.swap _ _ _))).perm ae4
end
structure C where
 ag:List aP
 kept:List Kept
 lK:(Nat->Option Int)×Nat
 ef:(Nat->Option Int)×Nat
 stamps:List ki
 ends:List Item
 clock:Int
 ae:Int
abbrev wj(a:Nat):Value:=.func (.func N.cj) ⟨[]⟩ ⟨[.p (some (ad a 0))]⟩
abbrev Sc(a a2:Nat):Value:=.func (.func N.cm) ⟨[]⟩ ⟨[.p (some (ad a 0)),.p (some (ad a2 0))]⟩
abbrev Mz(a a2:Nat):Value:=.func (.func N.cr) ⟨[]⟩ ⟨[.p (some (ad a 0)),.p (some (ad a2 0))]⟩
abbrev Ao(a a2 a3:Nat):Value:=.func (.func N.cw) ⟨[]⟩ ⟨[.p (some (ad a 0)),.p (some (ad a2 0)),.p (some (ad a3 0))]⟩
abbrev Hp(a a2:Nat):Value:=.func (.func N.cu) ⟨[]⟩ ⟨[.p (some (ad a 0)),.p (some (ad a2 0))]⟩
abbrev Tq(a a2:Nat):Value:=.func (.func N.cG) ⟨[]⟩ ⟨[.p (some (ad a 0)),.p (some (ad a2 0))]⟩
inductive zh(p la lk:Nat)(bx:List (Nat×LV)):Value->C->C->Prop
 |next {c:C} {a:Nat} {s:Int} (h1:(a,[.pointer (some (ad p 0))])∈bx) (hs:adP.wrap (c.ae-1)=s):zh p la lk bx (wj a) c {c with ae:=s}
 |time {c:C} {a a2:Nat} {t:Int} (h1:(a,[.int .i64 t])∈bx) (h2:(a2,[.pointer (some (ad p 0))])∈bx):zh p la lk bx (Sc a a2) c {c with clock:=t}
 |open_ {c:C} {a a2:Nat} {x:aP} {m:(Nat->Option Int)×Nat} (h1:(a,[.pointer (some (ad p 0))])∈bx) (h2:(a2,ak x)∈bx) (hu:c.lK.2<=1000) (hi:(c.lK.1 x.id).isSome=true) (hm:(sg c.lK.1 x.id none,c.lK.2-1)=m):
  zh p la lk bx (Mz a a2) c {c with lK:=m}
 |RR {c:C} {a a2 n:Nat} (h1:(a,[.pointer (some (ad la 0))])∈bx) (h2:(a2,[.int .i64 (n:Int)])∈bx) (hn:n<=c.ag.length):zh p la lk bx (xm a a2) c {c with ag:=c.ag.take n}
 |RQ {c:C} {a a2 n:Nat} (h1:(a,[.pointer (some (ad lk 0))])∈bx) (h2:(a2,[.int .i64 (n:Int)])∈bx) (hn:n<=c.kept.length):zh p la lk bx (qV a a2) c {c with kept:=c.kept.take n}
 |P6 {c:C} {a1 a2 a3 n:Nat} {x:aP} (h1:(a1,ak x)∈bx) (h2:(a2,[.pointer (some (ad la 0))])∈bx) (h3:(a3,[.int .i64 (n:Int)])∈bx) (hn:n<c.ag.length):zh p la lk bx (Aa a1 a2 a3) c {c with ag:=c.ag.set n x}
 |P5 {c:C} {a1 a2 a3 n:Nat} {x:Kept} (h1:(a1,aJ x)∈bx) (h2:(a2,[.pointer (some (ad lk 0))])∈bx) (h3:(a3,[.int .i64 (n:Int)])∈bx) (hn:n<c.kept.length):zh p la lk bx (xk a1 a2 a3) c {c with kept:=c.kept.set n x}
 |JC {c:C} {a a2 a3:Nat} {t:Move} {k:Kept} {l0:List ki} {at_:Int} {m:(Nat->Option Int)×Nat} (h1:(a,[.pointer (some (ad p 0))])∈bx) (h2:(a2,ai t)∈bx) (h3:(a3,aJ k)∈bx)
  (hu:c.ef.2<=1000) (hi:(c.ef.1 t.id).isSome=true) (hr:oF c.stamps) (hl:c.stamps.length<100000) (hs:c.stamps=l0++[(k.move.ae,at_)]) (hm:(sg c.ef.1 t.id none,c.ef.2-1)=m):
  zh p la lk bx (Ao a a2 a3) c {c with ef:=m,stamps:=l0}
 |JB {c:C} {a a2:Nat} {x:Item} {e':List Item} (h1:(a,[.pointer (some (ad p 0))])∈bx) (h2:(a2,dG x)∈bx) (hl:c.ends.length<10000) (he:(x::e').Perm c.ends) (hn:∀y∈e',y.ae≠x.ae):
  zh p la lk bx (Hp a a2) c {c with ends:=e'}
 |end_ {c:C} {a a2:Nat} {x:Item} {e':List Item} (h1:(a,[.pointer (some (ad p 0))])∈bx) (h2:(a2,dG x)∈bx) (hl:c.ends.length<10000) (he:e'.Perm (c.ends++[x])):zh p la lk bx (Tq a a2) c {c with ends:=e'}
def zh.mono{p la lk:Nat}{bx kA:List (Nat×LV)}{v:Value}{c c':C}(h:zh p la lk bx v c c')(hs:∀x∈bx,x∈kA):zh p la lk kA v c c':=by
 cases h with
 |next h1 h2=>exact .next (hs _ h1) h2
 |time h1 h2=>exact .time (hs _ h1) (hs _ h2)
 |open_ h1 h2 h3 h4 h5=>exact .open_ (hs _ h1) (hs _ h2) h3 h4 h5
 |RR h1 h2 h3=>exact .RR (hs _ h1) (hs _ h2) h3
 |RQ h1 h2 h3=>exact .RQ (hs _ h1) (hs _ h2) h3
 |P6 h1 h2 h3 h4=>exact .P6 (hs _ h1) (hs _ h2) (hs _ h3) h4
 |P5 h1 h2 h3 h4=>exact .P5 (hs _ h1) (hs _ h2) (hs _ h3) h4
 |JC h1 h2 h3 h4 h5 h6 h7 h8 h9=>exact .JC (hs _ h1) (hs _ h2) (hs _ h3) h4 h5 h6 h7 h8 h9
 |JB h1 h2 h3 h4 h5=>exact .JB (hs _ h1) (hs _ h2) h3 h4 h5
 |end_ h1 h2 h3 h4=>exact .end_ (hs _ h1) (hs _ h2) h3 h4
def gh(p la lk:Nat)(bx:List (Nat×LV)):LV->List C->C->Prop
 |[],[],_=>True
 |v::vs,c'::hs,c=>zh p la lk bx v c c'/\gh p la lk bx vs hs c'
 |_,_,_=>False
def gh.mono{p la lk:Nat}{bx kA:List (Nat×LV)}(hs:∀x∈bx,x∈kA):∀{vs:LV} {h:List C} {c:C},gh p la lk bx vs h c->gh p la lk kA vs h c
 |[],[],_,_=>trivial
 |v::vs,c'::h,c,hc=>⟨hc.1.mono hs,gh.mono hs hc.2⟩
def gh.len{p la lk:Nat}{bx:List (Nat×LV)}:∀{vs:LV} {h:List C} {c:C},gh p la lk bx vs h c->vs.length=h.length
 |[],[],_,_=>rfl
 |v::vs,c'::h,c,hc=>by simp[gh.len hc.2]
abbrev dz(la lk ti tn:Nat)(vs:LV)(c:C):Core:=⟨la,lk,ti,tn,vs.reverse,c.stamps,c.ends,c.clock,c.ae⟩
def Fy(p la lk ti tn:Nat)(vs:LV)(bx:List (Nat×LV))(c:C)(R:LH):LH:=
 dL p (dz la lk ti tn vs c)::nY ak 14 la (p,c.ag)::nY aJ 33 lk (p,c.kept)::kY ti c.lK::kY tn c.ef::rr bx::R
section
variable {W:World} {R:LH} {K:VK} {X:WK} {p la lk ti tn:Nat} {vs:LV} {bx:List (Nat×LV)} {c c':C} {v:Value}
def Y9:B2:=[(N.cG,cG.u),(N.cw,cw.u),(N.cu,cu.u),(N.cr,cr.u),(N.cm,cm.u),(N.cj,cj.u),(N.aY,aY.u),(N.aX,aX.u),(N.bq,bq.u),(N.bp,bp.u)]
def T.Dw{q:Core}{e e':List Item}(he:e.Perm e')(h:T W (dL p {q with ends:=e'}::R) X):T W (dL p {q with ends:=e}::R) X:=
 Dx λb1 c1 b2 c2 b3 c3 hp h1 h2=>vQ (q:={q with ends:=e'}) h1 (h2.trans he) h
def T.HE{A B:HP}(h:T W (B::A::R) X):T W (A::B::R) X:=T.perm h (aej.swap _ _ _)
def T.So{A B:HP}(h:T W (A::B::R) X):T W (B::A::R) X:=T.perm h (aej.swap _ _ _)
def T.TQ{A B D:HP}(h:T W (D::A::B::R) X):T W (A::B::D::R) X:=T.Sq (R:=R) h
def T.Sn{A B D:HP}(h:T W (A::B::D::R) X):T W (D::A::B::R) X:=T.Sp (R:=R) h
def Cy{x y:Item}{e' e2 e:List Item}(h1:(x::e').Perm e)(h2:(y::e2).Perm e)(hy:y.ae=x.ae)(hn:∀z∈e',z.ae≠x.ae):e2.Perm e':=by
 have:y∈x::e':=h1.mem_iff.2 (h2.mem_iff.1 (by simp));rcases ae'.1 this with rfl|hm
 ·exact(List.perm_cons y).1 (h2.trans h1.symm)
 ·exact absurd hy (hn y hm)
def WR(hc:zh p la lk bx v c c')(h:T W (Fy p la lk ti tn vs bx c' R) (K (.tuple ⟨[]⟩))):T W (Fy p la lk ti tn vs bx c R) (tj Y9 v [] K):=by
 unfold Fy at *;cases hc with
 |next h1 hs=>
  rename_i a s;show T W _ (cj (ad a 0) K);unfold cj
  repeat' first|apply ws;intros|apply wb|with_reducible first|refine nX h1 rfl ?_|refine Hr ?_|fail
  rw[show adP.wrap ((dz la lk ti tn vs c).ae-1)=s from hs];exact h
 |time h1 h2=>
  rename_i a a2 t;show T W _ (cm (ad a 0) (ad a2 0) K);unfold cm
  repeat' first|apply ws;intros|apply wb|with_reducible first|refine nX h2 rfl ?_|refine nX h1 rfl ?_|refine Hs ?_|fail
  exact h
 |open_ h1 h2 h3 h4 h5=>
  rename_i a a2 x m;show T W _ (cr (ad a 0) (ad a2 0) K);unfold cr
  repeat' first|apply ws;intros|apply wb|with_reducible first|refine nX h1 rfl ?_|refine Au h1 rfl ?_|fail
  refine Ar h2 ?_;refine O' h3 (λ_=>?_) (λhn=>by rw[hn] at h4;cases h4)
  repeat' first|apply ws;intros|apply wb|with_reducible refine Au h1 rfl ?_|fail
  rw[h5];exact h
 |RR h1 h2 h3=>
  rename_i a a2 n;show T W _ (aY (ad a 0) (ad a2 0) K);refine T.HE ?_;refine nE λb cc=>?_;unfold aY
  repeat' first|apply ws;intros|apply wb|with_reducible first|refine nX h1 rfl ?_|refine nX h2 rfl ?_|fail
  refine mP (b:=b) λqL _=>?_;refine vn (by omega) ?_;refine wm (b:=b) (i:=n) eY (by omega) ?_;apply ws;intros;exact pQ (g:=ak) (e:=14) (by rw[adX];omega) (T.So h)
 |RQ h1 h2 h3=>
  rename_i a a2 n;show T W _ (bq (ad a 0) (ad a2 0) K);refine T.TQ ?_;refine nE λb cc=>?_;unfold bq
  repeat' first|apply ws;intros|apply wb|with_reducible first|refine nX h1 rfl ?_|refine nX h2 rfl ?_|fail
  refine mP (b:=b) λqL _=>?_;refine vn (by omega) ?_;refine wm (b:=b) (i:=n) rK (by omega) ?_;apply ws;intros;exact pQ (g:=aJ) (e:=33) (by rw[adX];omega) (T.Sn h)
 |P6 h1 h2 h3 h4=>
  rename_i a1 a2 a3 n x;show T W _ (aX (ad a1 0) (ad a2 0) (ad a3 0) K);refine T.HE ?_;refine nE λb cc=>?_;unfold aX
  repeat' first|apply ws;intros|apply wb|with_reducible first|refine nX h2 rfl ?_|refine nX h3 rfl ?_|fail
  refine Ar h1 ?_;refine bQ ⟨by omega,by omega⟩ λr hr=>?_;subst hr;rw[adT];refine cN rfl (mS eY h4 (eV _) ?_);exact pQ (g:=ak) (e:=14) (by simp) (T.So h)
 |P5 h1 h2 h3 h4=>
  rename_i a1 a2 a3 n x;show T W _ (bp (ad a1 0) (ad a2 0) (ad a3 0) K);refine T.TQ ?_;refine nE λb cc=>?_;unfold bp
  repeat' first|apply ws;intros|apply wb|with_reducible first|refine nX h2 rfl ?_|refine nX h3 rfl ?_|fail
  refine Ar h1 ?_;refine bQ ⟨by omega,by omega⟩ λr hr=>?_;subst hr;rw[adT];refine cN rfl (mS rK h4 (jf _) ?_);exact pQ (g:=aJ) (e:=33) (by simp) (T.Sn h)
 |JC h1 h2 h3 h4 h5 h6 h7 h8 h9=>
  rename_i a a2 a3 t k l0 at_ m;show T W _ (cw (ad a 0) (ad a2 0) (ad a3 0) K);unfold cw
  repeat' first|apply ws;intros|apply wb|with_reducible first|refine nX h1 rfl ?_|refine Au h1 rfl ?_|fail
  refine Ar h2 ?_;refine O' h4 (λ_=>?_) (λhn=>by rw[hn] at h5;cases h5)
  repeat' first|apply ws;intros|apply wb|with_reducible first|refine nX h1 rfl ?_|refine Au h1 rfl ?_|refine nX h3 rfl ?_|fail
  simp only[dU,adW];refine Oo (p:=p) (q:=dz la lk ti tn vs c) h6 (by show c.stamps.length<_;omega) h8 ?_
  repeat' first|apply ws;intros|apply wb|with_reducible refine Au h1 rfl ?_|fail
  rw[h9];exact h
 |JB h1 h2 h3 h4 h5=>
  rename_i a a2 x e';show T W _ (cu (ad a 0) (ad a2 0) K);unfold cu
  repeat' first|apply ws;intros|apply wb|with_reducible first|refine nX h1 rfl ?_|refine nX h2 rfl ?_|fail
  simp only[dU,adW];refine GD (p:=p) (q:=dz la lk ti tn vs c) h3 (λy e2 hy hp=>?_) (λEd=>absurd rfl (Ed x (h4.mem_iff.1 (by simp))))
  repeat' first|apply ws;intros|apply wb|with_reducible refine Au h1 rfl ?_|fail
  exact T.Dw (Cy h4 hp hy h5) h
 |end_ h1 h2 h3 h4=>
  rename_i a a2 x e';show T W _ (cG (ad a 0) (ad a2 0) K);unfold cG
  repeat' first|apply ws;intros|apply wb|with_reducible refine nX h1 rfl ?_|fail
  refine Ar h2 ?_;simp only[dU,adW];refine Ew (p:=p) (q:=dz la lk ti tn vs c) h3 h4 ?_
  repeat' first|apply ws;intros|apply wb|with_reducible refine Au h1 rfl ?_|fail
  exact h
end
structure ada where
 la:Nat
 lk:Nat
 ti:Nat
 tn:Nat
def cP(p:Nat)(x:C×List C):HP:=
 SY λz:ada×LV×List (Nat×LV)=>LK (gh p z.1.la z.1.lk z.2.2 z.2.1 x.2 x.1) (zl (Fy p z.1.la z.1.lk z.1.ti z.1.tn z.2.1 z.2.2 x.1 []))
section
variable {W:World} {L R:LH} {K:VK} {X:WK} {p:Nat} {c:C} {hs:List C} {f:C×List C->LH}
def Ov(h:∀la lk ti tn vs bx,gh p la lk bx vs hs c->T W (dL p (dz la lk ti tn vs c)::nY ak 14 la (p,c.ag)::nY aJ 33 lk (p,c.kept)::kY ti c.lK::kY tn c.ef::rr bx::R) X):T W (cP p (c,hs)::R) X:=λw hw=>by
 obtain⟨⟨⟨la,lk,ti,tn⟩,vs,bx⟩,hw⟩:=hw.ex;obtain⟨hc,hw⟩:=hw.and;exact h la lk ti tn vs bx hc w (St.oq _ _ hw)
def Ac{la lk ti tn:Nat}{vs:LV}{bx:List (Nat×LV)}(hc:gh p la lk bx vs hs c)(h:T W (cP p (c,hs)::R) X):
 T W (dL p (dz la lk ti tn vs c)::nY ak 14 la (p,c.ag)::nY aJ 33 lk (p,c.kept)::kY ti c.lK::kY tn c.ef::rr bx::R) X:=λw hw=>
 h w (St.nJ (⟨la,lk,ti,tn⟩,vs,bx) (St.and_intro hc (St.mU _ _ hw)))
def t_c[i:Lc (cP p) L (c,hs) f](h:∀la lk ti tn vs bx R,gh p la lk bx vs hs c->
 (∀M c' cU B0 kA Y,gh p la lk kA B0 cU c'->T W (M++f (c',cU)) Y->T W (M++dL p (dz la lk ti tn B0 c')::nY ak 14 la (p,c'.ag)::nY aJ 33 lk (p,c'.kept)::kY ti c'.lK::kY tn c'.ef::rr kA::R) Y)->
 T W (dL p (dz la lk ti tn vs c)::nY ak 14 la (p,c.ag)::nY aJ 33 lk (p,c.kept)::kY ti c.lK::kY tn c.ef::rr bx::R) X):T W L X:=
 zH (P:=cP p) λR lR=>Ov λla lk ti tn vs bx hc=>h la lk ti tn vs bx R hc λM c' cU B0 kA Y Gl hy=>
  T.perm (Ac (R:=M++R) Gl (T.perm (lR M (c',cU) Y hy) ae4.symm)) (by
   have:=ad1 (l₁:=M) (l₂:=[dL p (dz la lk ti tn B0 c'),nY ak 14 la (p,c'.ag),nY aJ 33 lk (p,c'.kept),kY ti c'.lK,kY tn c'.ef,rr kA])|>.append_right R
   simpa using this)
def xD{b:OA}{n c e i:Nat}{xs:LV}{f:HP->LH}[j:oQ b n c L e xs f](hi:i<=n)(h:T W (f (own b i c e (xs.take (i* e)))) X):T W L X:=λw hs=>by
 obtain⟨k,hk,e1⟩:=j.at_;refine h w ?_;rw[e1];exact St.nB ((hs.focus hk).mono (AW hi)) hk
def MH{r n c e o:Nat}{xs:LV}{v:Value}{f:HP->LH}[j:oQ (some ⟨r,0,none⟩) n c L e xs f](hv:xs[o]?=some v)(h:T W L (K v)):T W L (ld ⟨r,o,none⟩ K):=λw hs=>by
 obtain⟨k,hk,_⟩:=j.at_;exact ya hs hk hv (h w hs)
def MK{b:OA}{n c e:Nat}{xs ys:LV}{f:HP->LH}[j:oQ b n c L e xs f](hl:ys.length=xs.length)(h1:∀v∈ys,v.oneCell'=true)(h:∀zs,T W (f (own b n c e zs)) X):T W L (Ry ys b n X):=λw hs=>by
 obtain⟨k,hk,e1⟩:=j.at_;refine⟨λ_=>h xs w (by rw[e1,jJ hk];exact hs),λa ha _=>?_⟩;obtain⟨hlx,h0|⟨r,sp,hb,qL,yR,fh⟩⟩:=hs.lD hk
 ·rw[h0.1] at ha;cases ha
 ·rw[hb] at ha;cases ha
  obtain⟨hc,rB⟩:=St.vw ys 0 0 fh (fX hk) (by simp;omega) h1;refine⟨hc,h ys _ ?_⟩;rw[ae6,aeN] at rB;have e2:over (xs++sp) 0 ys=ys++sp:=by
   unfold over;rw[afh,aev,adW,hl,List.drop_left' rfl]
  rw[e2] at rB;rw[e1,hb];exact St.xQ ((adU.1 hk).1) (by rw[hl];exact hlx) qL yR rB
def qv(n:Nat):C->List C->C×List C
 |c,[]=>(c,[])
 |c,c'::hs=>if n<=hs.length then qv n c' hs else(c,c'::hs)
def zb{n:Nat}(hn:hs.length<=n):qv n c hs=(c,hs):=by
 cases hs with
 |nil=>rfl
 |cons c' hs=>unfold qv;rw[if_neg (by simp at hn;omega)]
def Lx{q:Core}{w:World}(h:St W w (dL p q::R)):∃b c,w.cell? ⟨p,0,none⟩=some (.l b q.vs.length c):=by
 obtain⟨⟨⟨b1,c1⟩,⟨b2,c2⟩,⟨b3,c3⟩,hp⟩,hs⟩:=h.ex;obtain⟨_,hs⟩:=hs.and;have:=(St.oq _ _ hs).cell (k:=0) (o:=0) rfl;exact⟨b1,c1,this.1⟩
def V4(p:Nat)(w:World):Nat:=match w.cell? ⟨p,0,none⟩ with|some (.slice _ m _)=>m|_=>0
def Nw{q:Core}{w:World}(h:St W w (dL p q::R)):V4 p w=q.vs.length:=by
 obtain⟨b,cc,e⟩:=Lx h;unfold V4;rw[e]
def VN[i:Lc (cP p) L (c,hs) f]{n:Nat}(hl:hs.length<1000000)(h:T W (f (qv n c hs)) (K (.tuple ⟨[]⟩))):T W L (oI (some ⟨p,0,none⟩) (n:Int) K):=by
 refine t_c (p:=p) λla lk ti tn vs bx R hc lR=>?_;unfold oI;refine tG ?_;intro w hw;refine⟨λa w=>∃vs cU c',a=[]/\cU.length<1000000/\gh p la lk bx vs cU c'/\qv n c' cU=qv n c hs/\St W w (Fy p la lk ti tn vs bx c' R),
  λ_ w=>V4 p w,⟨vs,hs,c,rfl,hl,hc,rfl,hw⟩,?_⟩
 rintro w2 ⟨B0,cU,c',-,Hf,Gl,hb,hw⟩;have hmu:V4 p w2=B0.length:=by
  have:=Nw (q:=dz la lk ti tn B0 c') hw;rw[this];simp
 refine T.at ?_ hw;have hlen:=Gl.len;have QY:max2 (n:Int) 0=n:=by unfold max2;split<;>omega
 rw[QY];unfold Fy;refine mz (p:=p) λb1 c1 b2 c2 b3 c3 hp R2 g1 g2 NX=>?_;unfold fw;have hrl:(dz la lk ti tn B0 c').vs.length=B0.length:=aeO;apply ws;intros;refine dP (λg=>?_) (λg=>?_)
 ·have JO:n<B0.length:=by omega
  match B0,cU,Gl,hlen,Hf,JO with
  |v::tB,Y6::fh,Gl,hlen,Hf,JO=>
  simp only[ad'] at JO Hf hlen;have hrl:(dz la lk ti tn (v::tB) c').vs.length=tB.length+1:=by show(v::tB).reverse.length=_;simp
  have e1:adP.wrap (((dz la lk ti tn (v::tB) c').vs.length:Int) -1)=(tB.length:Int):=by rw[aw (by omega)];omega
  apply ws;intros;rw[e1];refine bQ ⟨by omega,by omega⟩ λr hr=>?_;subst hr;rw[adT,afp];refine MH (v:=v) (by simp) ?_;refine NX [] (dz la lk ti tn (v::tB) c') _ _ _ _ _ _ _ _ g1 g2 ?_;refine WR (c':=Y6) (vs:=v::tB) Gl.1 ?_;unfold Fy;refine mz (p:=p) λb1 c1 b2 c2 b3 c3 hp R2 g1 g2 aaU=>?_;unfold fw;apply ws;intros;refine mP (b:=b1) λqL _=>?_;have qL:(dz la lk ti tn (v::tB) c').vs.length<=c1:=qL;refine vn (by omega) ?_;refine xD (b:=b1) (i:=tB.length) (show tB.length<=(dz la lk ti tn (v::tB) c').vs.length by omega) ?_;apply ws;intros;have et:List.take (tB.length* 1) (v::tB).reverse=tB.reverse:=by rw[afp,afn,<-aeO,List.take_left]
  rw[et];have:=aaU [] (dz la lk ti tn tB Y6) b1 c1 b2 c2 b3 c3 hp (λw3=>(∃vs cU c',([]:LV)=[]/\cU.length<1000000/\gh p la lk bx vs cU c'/\qv n c' cU=qv n c hs/\St W w3 (Fy p la lk ti tn vs bx c' R))/\V4 p w3<V4 p w2) g1 g2 ?_
  ·unfold fw at this;rw[show(dz la lk ti tn tB Y6).vs.length=tB.length from aeO] at this;exact this
  ·intro w3 h3;refine⟨⟨tB,fh,Y6,rfl,by omega,Gl.2,?_,h3⟩,?_⟩
   ·rw[<-hb]
    conv=>rhs;unfold qv
    rw[if_pos (by omega)]
   ·have:=Nw (q:=dz la lk ti tn tB Y6) h3;rw[this,hmu];simp
 ·have hle:B0.length<=n:=by omega
  rw[zb (by omega)] at hb;rw[<-hb] at h;refine NX [] (dz la lk ti tn B0 c') _ _ _ _ _ _ _ _ g1 g2 ?_;exact lR [] c' cU B0 bx _ Gl h
def R4[i:Lc (cP p) L (c,hs) f](hl:hs.length<1000000)(h:T W (f (c,[])) (K (.tuple ⟨[]⟩))):T W L (ja (some ⟨p,0,none⟩) K):=by
 refine t_c (p:=p) λla lk ti tn vs bx R hc lR=>?_;have hlen:=hc.len;refine mz (p:=p) λb1 c1 b2 c2 b3 c3 hp R2 g1 g2 NX=>?_;unfold ja fw;apply ws;intros;refine mP (b:=b1) λqL Db=>?_;refine MK (b:=b1) (by rw[ko,Db];simp) (λv hv=>?_) λzs=>?_
 ·simp only[Builtin.zeroCells,Array.toList_map,aeC] at hv;obtain⟨j,_,rfl⟩:=hv;have:(⟨[Value.nilFunc]⟩:Array Value)[j%(⟨[Value.nilFunc]⟩:Array Value).size]! =.nilFunc:=by
   have:j%(⟨[Value.nilFunc]⟩:Array Value).size=0:=Nat.mod_one j;rw[this];rfl
  rw[this];rfl
 apply ws;intros;refine vn (i:=0) (by omega) ?_;refine xD (b:=b1) (i:=0) (by omega) ?_;apply ws;intros;rw[Nat.zero_mul,afh];refine NX [] (dz la lk ti tn [] c) b1 c1 b2 c2 b3 c3 hp _ g1 g2 ?_;exact lR [] c [] [] bx _ trivial h
end
end Go.Up
namespace Go.Md
structure Ground(m:Model):Prop where
 zero:∀a∈m.made,a.dp=0/\a.dq=0/\a.cp=0/\a.cq=0/\0<=a.flags/\a.flags<8
 ids:(m.made.map (·.id)).Nodup
 lH:m.made.length<=32
 names:(m.kept.map (·.move.id)).Nodup
 tg:∀k∈m.kept,0<=k.fate/\k.fate<=4/\(has k.move.flags 2↔1<=k.fate)
 tJ:∀k∈m.kept,k.move.aF≠k.move.ar/\k.move.aF∈m.made.map (·.id)/\k.move.ar∈m.made.map (·.id)
 some_:m.kept.length<=96
 vP:∀a∈m.made,S (vZ a.id) m.kept+S (yh a.id) m.kept<aK
 sW:∀a∈m.made,S (wa a.id) m.kept+S (yi a.id) m.kept<aK
 qU:∀a∈m.made,S (qm a.id) m.kept<=1
structure lX(b:ax)(m:Model):Prop where
 ag:b.ag=m.made.map (full m.kept)
 kept:b.kept=m.kept
 clock:b.clock=m.clock
 ae:b.ae=m.ae
def Ground.full{m:Model}(h:Ground m){a:aP}(ha:a∈m.made):m.full a=Md.full m.kept a:=by
 obtain⟨h1,h2,h3,h4,_⟩:=h.zero a ha;have d:=h.vP a ha;have c:=h.sW a ha;exact Ic a m.kept (by omega) (by omega) (by omega) (by omega)
def xe{l:List aP}{id:Nat}{a:aP}(h:l.find? (λa=>a.id=id)=some a):a∈l/\a.id=id:=
 ⟨aeQ h,by simpa using List.find?_some h⟩
def lX.find{b:ax}{m:Model}(h:lX b m)(id:Nat):b.find id=(m.find id).map (Md.full m.kept):=by
 unfold ax.find Model.find;rw[h.ag,List.find?_map]
 rfl
def Dm(l:List Kept)(k:Kept)(a:aP):full (l++[k]) a=full [k] (full l a):=(yZ a l [k]).symm
def wZ(k:Kept)(a:aP):full [k] a={a with dp:=a.dp+vZ a.id k,dq:=a.dq+yh a.id k,cp:=a.cp+wa a.id k,cq:=a.cq+yi a.id k,flags:=if gH a.id k then a.flags%8+8 else a.flags}:=by
 unfold full;simp only[nP,um,aeN]
 congr 1
 unfold qm;by_cases h:gH a.id k
 ·rw[if_pos h,if_pos h,if_neg (by omega)]
 ·rw[if_neg h,if_neg h,if_pos rfl]
def oD(t b:Move):qx t b≠0:=by unfold qx;split<;>decide
def tS{t:Move}{named:Option Kept}{d c:Option aP}{many:Nat}(h:(gM t named d c many).1=0):
 ∃d' c',d=some d'/\c=some c'/\named=none/\kz t=0/\ ¬gv t.flags/\d'.aG=c'.aG/\d'.flags<8/\c'.flags<8/\many<96/\
  d'.dp+d'.dq+(gM t named d c many).2<aK/\c'.cp+c'.cq+(gM t named d c many).2<aK/\
  ¬(has d'.flags 2/\gg d' true<(gM t named d c many).2)/\ ¬(has c'.flags 4/\gg c' false<(gM t named d c many).2):=by
 unfold gM at h⊢;by_cases h1:kz t≠0
 ·rw[if_pos h1] at h;exact absurd h h1
 rw[if_neg h1] at h⊢;by_cases h2:gv t.flags
 ·rw[if_pos h2] at h;exact absurd h (by decide)
 rw[if_neg h2] at h⊢;cases named with
 |some k=>exact absurd h (oD t k.asked)
 |none=>
  cases d with
  |none=>exact absurd h (show ¬(19:Int)=0 by decide)
  |some d=>
   cases c with
   |none=>exact absurd h (show ¬(20:Int)=0 by decide)
   |some c=>
    dsimp only at h⊢;by_cases h3:d.aG≠c.aG
    ·rw[if_pos h3] at h;exact absurd h (by decide)
    rw[if_neg h3] at h⊢;by_cases h4:d.aG≠t.aG
    ·rw[if_pos h4] at h;exact absurd h (by decide)
    rw[if_neg h4] at h⊢;by_cases h5:8<=d.flags
    ·rw[if_pos h5] at h;exact absurd h (by decide)
    rw[if_neg h5] at h⊢;by_cases h6:8<=c.flags
    ·rw[if_pos h6] at h;exact absurd h (by decide)
    rw[if_neg h6] at h⊢;by_cases h7:96<=many
    ·rw[if_pos h7] at h;exact absurd h (by decide)
    rw[if_neg h7] at h⊢;by_cases h8:(bI t d c).2≠0
    ·rw[if_pos h8] at h;exact absurd h h8
    rw[if_neg h8] at h⊢;by_cases h9:(more d true (bI t d c).1 (decide (has t.flags 2))).2≠0
    ·rw[if_pos h9] at h;exact absurd h h9
    rw[if_neg h9] at h⊢;by_cases UU:(more c false (bI t d c).1 (decide (has t.flags 2))).2≠0
    ·rw[if_pos UU] at h;exact absurd h UU
    rw[if_neg UU];dsimp only;refine⟨d,c,rfl,rfl,rfl,ad6.1 h1,h2,ad6.1 h3,by omega,by omega,by omega,?_,?_,?_,?_⟩
    ·by_cases hh:aK<=d.dp+d.dq+(bI t d c).1
     ·exfalso;apply h9;unfold more;rw[if_pos rfl,if_pos hh];exact(show(32:Int)≠0 by decide)
     ·omega
    ·by_cases hh:aK<=c.cp+c.cq+(bI t d c).1
     ·exfalso;apply UU;unfold more;rw[if_neg ael,if_pos hh];exact(show(32:Int)≠0 by decide)
     ·omega
    ·intro hh;apply h9;unfold more;rw[if_pos rfl];by_cases h0:aK<=d.dp+d.dq+(bI t d c).1
     ·rw[if_pos h0];exact(show(32:Int)≠0 by decide)
     ·rw[if_neg h0,if_pos hh];exact(show(33:Int)≠0 by decide)
    ·intro hh;apply UU;unfold more;rw[if_neg ael];by_cases h0:aK<=c.cp+c.cq+(bI t d c).1
     ·rw[if_pos h0];exact(show(32:Int)≠0 by decide)
     ·rw[if_neg h0,if_pos hh];exact(show(34:Int)≠0 by decide)
def mW{l:List aP}(hn:(l.map (·.id)).Nodup){a:aP}(ha:a∈l):l.find? (λx=>x.id=a.id)=some a:=by
 induction l with
 |nil=>simp at ha
 |cons x l ih=>
  simp only[aet,List.nodup_cons] at hn;rcases ae'.1 ha with rfl|ha
  ·simp
  ·rw[List.find?_cons];by_cases hx:x.id=a.id
   ·exact absurd (aeC.2 ⟨a,ha,hx.symm⟩) hn.1
   ·simp only[hx,decide_false];exact ih hn.2 ha
def Ia{a:aP}{k:Kept}(h1:k.move.aF≠a.id)(h2:k.move.ar≠a.id):full [k] a=a:=by
 rw[wZ];unfold vZ yh wa yi gH;simp[h1,h2]
def zS(a:aP)(b:Bool)(n:Nat)(p:Bool):(more a b n p).1.id=a.id/\(more a b n p).1.ae=a.ae:=by
 unfold more;split<;>split<;>(try exact⟨rfl,rfl⟩)<;>split<;>(try exact⟨rfl,rfl⟩)<;>split<;>exact⟨rfl,rfl⟩
def xj(a:aP)(yes:Prop)[Decidable yes]:(close a yes).id=a.id/\(close a yes).ae=a.ae:=by unfold close;split<;>exact⟨rfl,rfl⟩
def HS{d c x:aP}{t:Move}{n:Nat}{st ck:Int}(UJ:t.aF≠t.ar)(hd:d.id=t.aF)(hc:c.id=t.ar)(nj: ¬gv t.flags)(Pm:d.dp+d.dq+n<aK)(hsc:c.cp+c.cq+n<aK)(hxd:x.id=t.aF->x=d)(hxc:x.id=t.ar->x=c)
 (F': ¬(has d.flags 2/\gg d true<n))(qL: ¬(has c.flags 4/\gg c false<n))(q1:has t.flags 64->has t.flags 2)(q2:has t.flags 128->has t.flags 2):
 (λy:aP=>if y.id=(close (more c false n (decide (has t.flags 2))).1 (has t.flags 128)).id then{close (more c false n (decide (has t.flags 2))).1 (has t.flags 128) with ae:=y.ae} else y)
  ((λy:aP=>if y.id=(close (more d true n (decide (has t.flags 2))).1 (has t.flags 64)).id then{close (more d true n (decide (has t.flags 2))).1 (has t.flags 64) with ae:=y.ae} else y) x)
 =full [⟨t,{t with aB:=n,ae:=st,born:=ck},waits t⟩] x:=by
 have i1:(close (more d true n (decide (has t.flags 2))).1 (has t.flags 64)).id=t.aF:=by rw[(xj _ _).1,(zS _ _ _ _).1,hd]
 have i2:(close (more c false n (decide (has t.flags 2))).1 (has t.flags 128)).id=t.ar:=by rw[(xj _ _).1,(zS _ _ _ _).1,hc]
 have s1:(close (more d true n (decide (has t.flags 2))).1 (has t.flags 64)).ae=d.ae:=by rw[(xj _ _).2,(zS _ _ _ _).2]
 have s2:(close (more c false n (decide (has t.flags 2))).1 (has t.flags 128)).ae=c.ae:=by rw[(xj _ _).2,(zS _ _ _ _).2]
 have e4: ¬has t.flags 4:=λh=>nj (.inl h);have e8: ¬has t.flags 8:=λh=>nj (.inr h);dsimp only;rw[i1,i2];by_cases h1:x.id=t.aF
 ·have hx:=hxd h1;subst hx;rw[if_pos h1];rw[if_neg (show ¬t.aF=t.ar from UJ),wZ];unfold vZ yh wa yi gH ie waits close more;have gU: ¬t.ar=x.id:=λh=>UJ (by rw[h,h1]);simp only[if_true,if_neg (show ¬aK<=x.dp+x.dq+n by omega),if_neg F'];by_cases hw:has t.flags 2<;>by_cases lR:has t.flags 64<;>(try exact absurd (q1 lR) hw)<;>simp[hw,lR,e8,h1.symm,gU]
 ·rw[if_neg h1];by_cases h2:x.id=t.ar
  ·have hx:=hxc h2;subst hx;rw[if_pos h2,wZ];unfold vZ yh wa yi gH ie waits close more;have gU: ¬t.aF=x.id:=λh=>h1 h.symm;simp only[aeh,if_false,if_neg (show ¬aK<=x.cp+x.cq+n by omega),if_neg qL];by_cases hw:has t.flags 2<;>by_cases lR:has t.flags 128<;>(try exact absurd (q2 lR) hw)<;>simp[hw,lR,e8,h2.symm,gU]
  ·rw[if_neg h2,Ia (λh=>h1 h.symm) (λh=>h2 h.symm)]
def LA{t:Move}(h:kz t=0)(he: ¬gv t.flags):t.aF≠t.ar/\0<=t.flags/\t.flags<=255/\(has t.flags 64->has t.flags 2)/\(has t.flags 128->has t.flags 2):=by
 unfold kz at h;by_cases h1:t.flags<0\/255<t.flags
 ·rw[if_pos h1] at h;exact absurd h (by decide)
 rw[if_neg h1] at h;have ht:ft t.flags:=by
  by_cases h2:t.id=0
  ·rw[if_pos h2] at h;exact absurd h (by decide)
  rw[if_neg h2] at h;by_cases h3:t.id=aK-1
  ·rw[if_pos h3] at h;exact absurd h (by decide)
  rw[if_neg h3] at h;by_cases h4: ¬ft t.flags
  ·rw[if_pos h4] at h;exact absurd h (by decide)
  exact ad6.1 h4
 have Ra:∀b:Int,(b=64\/b=128)->has t.flags b->has t.flags 2:=λb hb hh=>by
  rcases ht.2.2 with h0|h0
  ·unfold has at hh;rcases hb with rfl|rfl<;>omega
  ·exact h0
 refine⟨λUJ=>?_,by omega,by omega,Ra 64 (.inl rfl),Ra 128 (.inr rfl)⟩;by_cases h2:t.id=0
 ·rw[if_pos h2] at h;exact absurd h (by decide)
 rw[if_neg h2] at h;by_cases h3:t.id=aK-1
 ·rw[if_pos h3] at h;exact absurd h (by decide)
 rw[if_neg h3] at h;by_cases h4: ¬ft t.flags
 ·rw[if_pos h4] at h;exact absurd h (by decide)
 rw[if_neg h4] at h;by_cases h5:t.ae≠0\/t.born≠0
 ·rw[if_pos h5] at h;exact absurd h (by decide)
 rw[if_neg h5] at h;by_cases h6:t.timeout<0\/1073741824<t.timeout\/0<t.timeout/\ ¬has t.flags 2
 ·rw[if_pos h6] at h;exact absurd h (by decide)
 rw[if_neg h6,if_neg he] at h;by_cases h7:t.aF=0
 ·rw[if_pos h7] at h;exact absurd h (by decide)
 rw[if_neg h7] at h;by_cases h8:t.ar=0
 ·rw[if_pos h8] at h;exact absurd h (by decide)
 rw[if_neg h8,if_pos UJ] at h;exact absurd h (by decide)
def Bp{l:List Kept}{a:aP}(h0:0<=a.flags)(h:(full l a).flags<8):S (qm a.id) l=0:=by
 by_cases hs:S (qm a.id) l=0
 ·exact hs
 ·exfalso;have e:(full l a).flags=a.flags%8+8:=if_neg hs;rw[e] at h;omega
def lX.D5{b:ax}{m:Model}(h:lX b m)(id:Nat):b.named id=m.named id:=by unfold ax.named Model.named;rw[h.kept]
def Ground.N4{m:Model}(h:Ground m)(id:Nat):(m.find id).map m.full=(m.find id).map (Md.full m.kept):=by
 cases hf:m.find id with
 |none=>rfl
 |some a=>rw[aeD,aeD,h.full (xe hf).1]
def Ground.one{m:Model}(h:Ground m){id:Nat}{d:aP}(hf:(m.find id).map (Md.full m.kept)=some d){a:aP}(ha:a∈m.made)(Hi:a.id=id):Md.full m.kept a=d:=by
 have:=mW h.ids ha;rw[Hi] at this;unfold Model.find at hf;rw[this] at hf;simpa using hf
def lX.move{b:ax}{m:Model}{t:Move}(hs:lX b m)(hg:Ground m):(b.move t).1=(m.move t).1/\lX (b.move t).2 (m.move t).2/\Ground (m.move t).2:=by
 have e:gM t (b.named t.id) (b.find t.aF) (b.find t.ar) b.kept.length=gM t (m.named t.id) ((m.find t.aF).map m.full) ((m.find t.ar).map m.full) m.kept.length:=by
  rw[hs.D5,hs.find,hs.find,hg.N4,hg.N4,hs.kept]
 unfold ax.move Model.move;dsimp only;rw[e];by_cases hr:(gM t (m.named t.id) ((m.find t.aF).map m.full) ((m.find t.ar).map m.full) m.kept.length).1≠0
 ·rw[if_pos hr,if_pos hr];exact⟨rfl,hs,hg⟩
 rw[if_neg hr,if_neg hr];have Ul:=ad6.1 hr;obtain⟨d,c,hd,hc,hn,pw,nj,hlg,SM,SN,rN,Pm,hsc,F',qL⟩:=tS Ul;generalize (gM t (m.named t.id) ((m.find t.aF).map m.full) ((m.find t.ar).map m.full) m.kept.length).2=n at *;obtain⟨UJ,adH,adG,hq1,QV⟩:=LA pw nj;rw[hg.N4] at hd hc;have ZK:b.find t.aF=some d:=by rw[hs.find];exact hd
 have ZL:b.find t.ar=some c:=by rw[hs.find];exact hc
 obtain⟨d0,Wh,rfl⟩:=Option.map_eq_some_iff.1 hd;obtain⟨c0,hc0,rfl⟩:=Option.map_eq_some_iff.1 hc;obtain⟨Eg,EV⟩:=xe Wh;obtain⟨Mc,Eh⟩:=xe hc0;refine⟨rfl,⟨?_,?_,?_,?_⟩,?_⟩
 ·unfold ax.yM;rw[ZK,ZL];show((b.ag.map _).map _)=m.made.map (Md.full (m.kept++[_]));rw[hs.ag,aft,aft];apply ae9;intro a ha;rw[Dm];exact HS (d:=Md.full m.kept d0) (c:=Md.full m.kept c0) (x:=Md.full m.kept a) UJ EV Eh nj Pm hsc (λhx=>hg.one hd ha hx) (λhx=>hg.one hc ha hx) F' qL hq1 QV
 ·unfold ax.yM;rw[ZK,ZL];show b.kept++[(⟨t,{{t with aB:=n} with ae:=b.ae+1,born:=b.clock},waits t⟩:Kept)]=m.kept++[_];rw[hs.kept,hs.ae,hs.clock]
 ·unfold ax.yM;rw[ZK,ZL];exact hs.clock
 ·unfold ax.yM;rw[ZK,ZL];show b.ae+1=m.ae+1;rw[hs.ae]
 ·have hdz:=hg.zero d0 Eg;have hcz:=hg.zero c0 Mc;have hle:∀id(k:Kept),k.move.aF=t.aF->k.move.aB=n->k.move.flags=t.flags->k.fate=waits t->vZ id k+yh id k<=if t.aF=id then n else 0:=λid k e1 e2 e3 e4=>by
   have hx:k.fate=1-> ¬ie k:=λh1 h2=>by
    rw[e4] at h1;unfold waits at h1;by_cases h3:has t.flags 2
    ·exact h2.1 (by rw[e3];exact h3)
    ·rw[if_neg h3] at h1;exact absurd h1 (by decide)
   unfold vZ yh;rw[e1,e2];by_cases h1:t.aF=id
   ·by_cases h2:k.fate=1
    ·simp[h1,h2,hx h2]
    ·simp[h1,h2];split<;>omega
   ·simp[h1]
  have aaD:∀id(k:Kept),k.move.ar=t.ar->k.move.aB=n->k.move.flags=t.flags->k.fate=waits t->wa id k+yi id k<=if t.ar=id then n else 0:=λid k e1 e2 e3 e4=>by
   have hx:k.fate=1-> ¬ie k:=λh1 h2=>by
    rw[e4] at h1;unfold waits at h1;by_cases h3:has t.flags 2
    ·exact h2.1 (by rw[e3];exact h3)
    ·rw[if_neg h3] at h1;exact absurd h1 (by decide)
   unfold wa yi;rw[e1,e2];by_cases h1:t.ar=id
   ·by_cases h2:k.fate=1
    ·simp[h1,h2,hx h2]
    ·simp[h1,h2];split<;>omega
   ·simp[h1]
  refine⟨hg.zero,hg.ids,hg.lH,?_,λk hk=>?_,λk hk=>?_,?_,λa ha=>?_,λa ha=>?_,λa ha=>?_⟩
  ·show((m.kept++[_]).map _).Nodup;rw[aep,List.nodup_append];refine⟨hg.names,by simp,λx hx y hy=>?_⟩;simp only[aet,afs,List.mem_singleton] at hy;obtain⟨k,hk,rfl⟩:=aeC.1 hx;intro V8;unfold Model.named at hn;have:=afc.1 hn k hk;simp[V8,hy] at this
  ·rcases aew.1 hk with hk|hk
   ·exact hg.tg k hk
   ·simp only[List.mem_singleton] at hk;subst hk;unfold waits;by_cases h2:has t.flags 2
    ·simp only[if_pos h2];exact⟨by decide,by decide,by simp[h2]⟩
    ·simp only[if_neg h2];exact⟨by decide,by decide,by simp[h2]⟩
  ·rcases aew.1 hk with hk|hk
   ·exact hg.tJ k hk
   ·simp only[List.mem_singleton] at hk;subst hk;exact⟨UJ,aeC.2 ⟨d0,Eg,EV⟩,aeC.2 ⟨c0,Mc,Eh⟩⟩
  ·show(m.kept++[_]).length<=96;rw[adV,aff];omega
  ·show S (vZ a.id) (m.kept++[_])+S (yh a.id) (m.kept++[_])<aK;rw[rv,rv];generalize hK:Kept.mk t _ (waits t)=K;have h1:=hle a.id K (by rw[<-hK]) (by rw[<-hK]) (by rw[<-hK]) (by rw[<-hK]);have h2:=hg.vP a ha;by_cases UP:t.aF=a.id
   ·rw[if_pos UP] at h1;have h3:=hg.one hd ha UP.symm;rw[<-h3] at Pm;have h4:=hg.zero a ha;have e1:(Md.full m.kept a).dp=a.dp+S (vZ a.id) m.kept:=rfl;have e2:(Md.full m.kept a).dq=a.dq+S (yh a.id) m.kept:=rfl;omega
   ·rw[if_neg UP] at h1;omega
  ·show S (wa a.id) (m.kept++[_])+S (yi a.id) (m.kept++[_])<aK;rw[rv,rv];generalize hK:Kept.mk t _ (waits t)=K;have h1:=aaD a.id K (by rw[<-hK]) (by rw[<-hK]) (by rw[<-hK]) (by rw[<-hK]);have h2:=hg.sW a ha;by_cases UP:t.ar=a.id
   ·rw[if_pos UP] at h1;have h3:=hg.one hc ha UP.symm;rw[<-h3] at hsc;have e1:(Md.full m.kept a).cp=a.cp+S (wa a.id) m.kept:=rfl;have e2:(Md.full m.kept a).cq=a.cq+S (yi a.id) m.kept:=rfl;omega
   ·rw[if_neg UP] at h1;omega
  ·show S (qm a.id) (m.kept++[_])<=1;rw[rv];have h2:=hg.qU a ha;generalize hK:Kept.mk t _ (waits t)=K;by_cases lR:gH a.id K
   ·have h3:qm a.id K=1:=if_pos lR;have h0:S (qm a.id) m.kept=0:=by
     rcases lR.1 with⟨_,hh⟩|⟨_,hh⟩
     ·rw[<-hK] at hh;have:=hg.one hd ha (show a.id=t.aF from hh.symm);rw[<-this] at SM;exact Bp (hg.zero a ha).2.2.2.2.1 SM
     ·rw[<-hK] at hh;have:=hg.one hc ha (show a.id=t.ar from hh.symm);rw[<-this] at SN;exact Bp (hg.zero a ha).2.2.2.2.1 SN
    omega
   ·have h3:qm a.id K=0:=if_neg lR;omega
def modify_eq{α:Type}(f:α->α):∀(l:List α)(i:Nat)(h:i<l.length),l.modify i f=l.set i (f l[i])
 |[],i,h=>by simp at h
 |x::l,0,h=>by simp[List.modify]
 |x::l,i+1,h=>by
  have:=modify_eq f l i (by simpa using h);simp[List.modify_succ_cons,this]
def ended{l:List Kept}{i:Nat}(hi:i<l.length){f:Int}(h1:l[i].fate=1)(hw:has l[i].move.flags 2)(hf:f=2\/f=3\/f=4)(id:Nat):
 S (vZ id) (l.set i {l[i] with fate:=f})+(if l[i].move.aF=id then l[i].move.aB else 0)=S (vZ id) l/\
 S (wa id) (l.set i {l[i] with fate:=f})+(if l[i].move.ar=id then l[i].move.aB else 0)=S (wa id) l/\
 S (yh id) (l.set i {l[i] with fate:=f})=S (yh id) l/\S (yi id) (l.set i {l[i] with fate:=f})=S (yi id) l/\
 S (qm id) (l.set i {l[i] with fate:=f})+(if f≠2/\(has l[i].move.flags 64/\l[i].move.aF=id\/has l[i].move.flags 128/\l[i].move.ar=id) then 1 else 0)=S (qm id) l:=by
 have a1:=DC (vZ id) l i {l[i] with fate:=f} hi;have a2:=DC (wa id) l i {l[i] with fate:=f} hi;have a3:=DC (yh id) l i {l[i] with fate:=f} hi;have a4:=DC (yi id) l i {l[i] with fate:=f} hi;have a5:=DC (qm id) l i {l[i] with fate:=f} hi;have b1:vZ id {l[i] with fate:=f}=0:=by unfold vZ;rw[if_neg (by rintro⟨hh,_⟩;dsimp only at hh;omega)]
 have b2:wa id {l[i] with fate:=f}=0:=by unfold wa;rw[if_neg (by rintro⟨hh,_⟩;dsimp only at hh;omega)]
 have b3:yh id {l[i] with fate:=f}=yh id l[i]:=rfl;have b4:yi id {l[i] with fate:=f}=yi id l[i]:=rfl;have c1:vZ id l[i]=if l[i].move.aF=id then l[i].move.aB else 0:=by
  unfold vZ;by_cases h:l[i].move.aF=id
  ·rw[if_pos ⟨h1,h⟩,if_pos h]
  ·rw[if_neg (λhh=>h hh.2),if_neg h]
 have c2:wa id l[i]=if l[i].move.ar=id then l[i].move.aB else 0:=by
  unfold wa;by_cases h:l[i].move.ar=id
  ·rw[if_pos ⟨h1,h⟩,if_pos h]
  ·rw[if_neg (λhh=>h hh.2),if_neg h]
 rw[b1,c1] at a1;rw[b2,c2] at a2;rw[b3] at a3;rw[b4] at a4;refine⟨by omega,by omega,by omega,by omega,?_⟩;by_cases lR:has l[i].move.flags 64/\l[i].move.aF=id\/has l[i].move.flags 128/\l[i].move.ar=id
 ·have d1:qm id l[i]=1:=if_pos ⟨lR,.inl h1⟩;by_cases zV:f=2
  ·have d2:qm id {l[i] with fate:=f}=1:=if_pos ⟨lR,.inr zV⟩;rw[if_neg (λhh=>hh.1 zV)];omega
  ·have d2:qm id {l[i] with fate:=f}=0:=if_neg (by rintro⟨_,hh⟩;dsimp only at hh;omega);rw[if_pos ⟨zV,lR⟩];omega
 ·have d1:qm id l[i]=0:=if_neg (λhh=>lR hh.1);have d2:qm id {l[i] with fate:=f}=0:=if_neg (λhh=>lR hh.1);rw[if_neg (λhh=>lR hh.2)];omega
def DQ(d:aP)(p:Move)(n:Nat)(f:Int):(vA d p n f).id=d.id/\(vA d p n f).ae=d.ae:=by unfold vA open_;split<;>(try exact⟨rfl,rfl⟩);split<;>exact⟨rfl,rfl⟩
def DR(d:aP)(p:Move)(n:Nat)(f:Int):(wB d p n f).id=d.id/\(wB d p n f).ae=d.ae:=by unfold wB open_;split<;>(try exact⟨rfl,rfl⟩);split<;>exact⟨rfl,rfl⟩
def Ft{l:List Kept}{i:Nat}(hi:i<l.length){f:Int}{n:Nat}{a:aP}(h1:l[i].fate=1)(hw:has l[i].move.flags 2)(hf:f=2\/f=3\/f=4)(gU:l[i].move.aF≠l[i].move.ar)(ha0:0<=a.flags)(ha8:a.flags<8)(lR:S (qm a.id) l<=1)
 {d c:aP}(hd:d.id=l[i].move.aF)(hc:c.id=l[i].move.ar)(hxd:a.id=l[i].move.aF->full l a=d)(hxc:a.id=l[i].move.ar->full l a=c):
 (λy:aP=>if y.id=(wB c l[i].move n f).id then{wB c l[i].move n f with ae:=y.ae} else y) ((λy:aP=>if y.id=(vA d l[i].move n f).id then{vA d l[i].move n f with ae:=y.ae} else y) (full l a))
 ={full (l.set i {l[i] with fate:=f}) a with dq:=(full l a).dq+(if f=2/\l[i].move.aF=a.id then n else 0),cq:=(full l a).cq+(if f=2/\l[i].move.ar=a.id then n else 0)}:=by
 have Hi:(full l a).id=a.id:=rfl;obtain⟨e1,e2,e3,e4,e5⟩:=ended hi h1 hw hf a.id;dsimp only;rw[(DR c _ n f).1,(DQ d _ n f).1,hd,hc];generalize hk:l[i]=k at *;generalize hl:l.set i {k with fate:=f}=l' at *;by_cases Ld:a.id=k.move.aF
 ·have hx:=hxd Ld;rw[if_pos (show(full l a).id=k.move.aF by rw[Hi];exact Ld),if_neg (show ¬k.move.aF=k.move.ar from gU),<-hx];have Uw: ¬k.move.ar=a.id:=λhh=>gU (by rw[hh,Ld]);rw[if_pos Ld.symm] at e1;rw[if_neg Uw] at e2;unfold vA open_ full;dsimp only;by_cases h2:f=2
  ·subst h2;simp only[if_true,true_and,Ld.symm,Uw,if_false,aeN];rw[if_neg (by rintro⟨hh,_⟩;exact hh rfl)] at e5;have:S (qm a.id) l'=S (qm a.id) l:=by omega
   simp only[this,e3,e4]
   congr 1<;>omega
  ·have hb:∀p:Prop,¬(f=2/\p):=λp hh=>h2 hh.1;rw[if_neg h2,if_neg (hb _),if_neg (hb _)];by_cases Ra:has k.move.flags 64
   ·rw[if_pos ⟨h2,.inl ⟨Ra,Ld.symm⟩⟩] at e5;have z1:S (qm a.id) l'=0:=by omega
    have z2: ¬S (qm a.id) l=0:=by omega
    simp only[z1,z2,Ra,if_true,if_false,e3,e4]
    congr 1<;>omega
   ·rw[if_neg (by rintro⟨_,hh|hh⟩;exact Ra hh.1;exact Uw hh.2)] at e5;have:S (qm a.id) l'=S (qm a.id) l:=by omega
    simp only[this,Ra,if_false,e3,e4]
    congr 1<;>omega
 ·rw[if_neg (show ¬(full l a).id=k.move.aF by rw[Hi];exact Ld)];have K6: ¬k.move.aF=a.id:=λhh=>Ld hh.symm;by_cases JP:a.id=k.move.ar
  ·have hx:=hxc JP;rw[if_pos (show(full l a).id=k.move.ar by rw[Hi];exact JP),<-hx];rw[if_neg K6] at e1;rw[if_pos JP.symm] at e2;unfold wB open_ full;dsimp only;by_cases h2:f=2
   ·subst h2;simp only[if_true,true_and,JP.symm,K6,if_false,aeN];rw[if_neg (by rintro⟨hh,_⟩;exact hh rfl)] at e5;have:S (qm a.id) l'=S (qm a.id) l:=by omega
    simp only[this,e3,e4]
    congr 1<;>omega
   ·have hb:∀p:Prop,¬(f=2/\p):=λp hh=>h2 hh.1;rw[if_neg h2,if_neg (hb _),if_neg (hb _)];by_cases H':has k.move.flags 128
    ·rw[if_pos ⟨h2,.inr ⟨H',JP.symm⟩⟩] at e5;have z1:S (qm a.id) l'=0:=by omega
     have z2: ¬S (qm a.id) l=0:=by omega
     simp only[z1,z2,H',if_true,if_false,e3,e4]
     congr 1<;>omega
    ·rw[if_neg (by rintro⟨_,hh|hh⟩;exact K6 hh.2;exact H' hh.1)] at e5;have:S (qm a.id) l'=S (qm a.id) l:=by omega
     simp only[this,H',if_false,e3,e4]
     congr 1<;>omega
  ·rw[if_neg (show ¬(full l a).id=k.move.ar by rw[Hi];exact JP)];have Ux: ¬k.move.ar=a.id:=λhh=>JP hh.symm;rw[if_neg K6] at e1;rw[if_neg Ux] at e2;rw[if_neg (by rintro⟨_,hh|hh⟩;exact K6 hh.2;exact Ux hh.2)] at e5;have:S (qm a.id) l'=S (qm a.id) l:=by omega
   unfold full;simp only[this,K6,Ux,and_false,if_false,aeN,e3,e4]
   congr 1<;>omega
def y4{l:List Kept}{p:Kept->Bool}:l.find? p=(l.findIdx? p).bind λi=>l[i]?:=by
 induction l with
 |nil=>rfl
 |cons x l ih=>
  rw[List.find?_cons,List.findIdx?_cons];cases hp:p x with
  |true=>rfl
  |false=>
   simp only[ih];cases l.findIdx? p with
   |none=>rfl
   |some i=>simp
def lX.make{b:ax}{m:Model}{a:aP}(hs:lX b m)(hg:Ground m):(b.make a).1=(m.make a).1/\lX (b.make a).2 (m.make a).2/\Ground (m.make a).2:=by
 unfold ax.make Model.make;by_cases h1:qE a≠0
 ·rw[if_pos h1,if_pos h1];exact⟨rfl,hs,hg⟩
 rw[if_neg h1,if_neg h1,hs.find];cases hf:m.find a.id with
 |some x=>
  refine⟨?_,hs,hg⟩;show ru a (Md.full m.kept x)=ru a x;have hz:=hg.zero x (xe hf).1;unfold ru Md.full;dsimp only;have:(if S (qm x.id) m.kept=0 then x.flags else x.flags%8+8)/2%4=x.flags/2%4:=by split<;>omega
  rw[this]
 |none=>
  have hlen:b.ag.length=m.made.length:=by rw[hs.ag,aei]
  dsimp only[Option.map_none];rw[hlen];by_cases h2:32<=m.made.length
  ·rw[if_pos h2,if_pos h2];exact⟨rfl,hs,hg⟩
  rw[if_neg h2,if_neg h2];have pw:=ad6.1 h1;have kH:∀x∈m.made,x.id≠a.id:=λx hx=>by
   have:=afc.1 hf x hx;simpa using this
  have hc:0<=a.flags/\a.flags<=7/\a.dp=0/\a.dq=0/\a.cp=0/\a.cq=0:=by
   unfold qE at pw;by_cases c1:a.flags<0\/7<a.flags
   ·rw[if_pos c1] at pw;exact absurd pw (by decide)
   rw[if_neg c1] at pw;by_cases c2:a.id=0
   ·rw[if_pos c2] at pw;exact absurd pw (by decide)
   rw[if_neg c2] at pw;by_cases c3:a.id=aK-1
   ·rw[if_pos c3] at pw;exact absurd pw (by decide)
   rw[if_neg c3] at pw;by_cases c4:has a.flags 2/\has a.flags 4
   ·rw[if_pos c4] at pw;exact absurd pw (by decide)
   rw[if_neg c4] at pw;by_cases c5:a.dp≠0\/a.dq≠0\/a.cp≠0\/a.cq≠0\/a.ae≠0
   ·rw[if_pos c5] at pw;exact absurd pw (by decide)
   omega
  have z:∀k∈m.kept,k.move.aF≠a.id/\k.move.ar≠a.id:=λk hk=>by
   obtain⟨_,s1,s2⟩:=hg.tJ k hk;obtain⟨x,hx,hxe⟩:=aeC.1 s1;obtain⟨y,hy,hye⟩:=aeC.1 s2;exact⟨λh=>kH x hx (by rw[hxe,h]),λh=>kH y hy (by rw[hye,h])⟩
  have S0:∀f:Kept->Nat,(∀k∈m.kept,f k=0)->S f m.kept=0:=λf hf=>by
   have:∀l:List Kept,(∀k∈l,f k=0)->S f l=0:=λl=>by
    induction l with
    |nil=>intro _;rfl
    |cons x l ih=>intro h;rw[nP,h x (by simp),ih λk hk=>h k (by simp[hk])]
   exact this _ hf
  have z1:S (vZ a.id) m.kept=0:=S0 _ λk hk=>if_neg (λhh=>(z k hk).1 hh.2);have z2:S (wa a.id) m.kept=0:=S0 _ λk hk=>if_neg (λhh=>(z k hk).2 hh.2);have z3:S (yh a.id) m.kept=0:=S0 _ λk hk=>if_neg (λhh=>(z k hk).1 hh.2);have z4:S (yi a.id) m.kept=0:=S0 _ λk hk=>if_neg (λhh=>(z k hk).2 hh.2);have z5:S (qm a.id) m.kept=0:=S0 _ λk hk=>if_neg (λhh=>by
   rcases hh.1 with h|h
   ·exact(z k hk).1 h.2
   ·exact(z k hk).2 h.2)
  refine⟨rfl,⟨?_,hs.kept,hs.clock,by show b.ae+1=m.ae+1;rw[hs.ae]⟩,?_⟩
  ·show b.ag++[_]=(m.made++[_]).map (Md.full m.kept);rw[aep,hs.ag,hs.ae]
   congr 1
   simp only[aet,afs]
   congr 1
   unfold Md.full;dsimp only;rw[z1,z2,z3,z4,z5,if_pos rfl];simp
  ·have key:∀x∈m.made++[({a with ae:=m.ae+1,flags:=a.flags/2* 2}:aP)],x∈m.made\/x={a with ae:=m.ae+1,flags:=a.flags/2* 2}:=λx hx=>by
    rcases aew.1 hx with h|h
    ·exact .inl h
    ·exact .inr (by simpa using h)
   refine⟨λx hx=>?_,?_,?_,hg.names,hg.tg,λk hk=>?_,hg.some_,λx hx=>?_,λx hx=>?_,λx hx=>?_⟩
   ·rcases key x hx with h|rfl
    ·exact hg.zero x h
    ·exact⟨hc.2.2.1,hc.2.2.2.1,hc.2.2.2.2.1,hc.2.2.2.2.2,by show 0<=a.flags/2* 2;omega,by show a.flags/2* 2<8;omega⟩
   ·show((m.made++[_]).map _).Nodup;rw[aep,List.nodup_append];refine⟨hg.ids,by simp,λx hx y hy=>?_⟩;simp only[aet,afs,List.mem_singleton] at hy;obtain⟨u,hu,rfl⟩:=aeC.1 hx;rw[hy];exact kH u hu
   ·show(m.made++[_]).length<=32;rw[adV,aff];omega
   ·obtain⟨s0,s1,s2⟩:=hg.tJ k hk;refine⟨s0,?_,?_⟩
    ·show _∈(m.made++[_]).map _;rw[aep];exact List.mem_append_left _ s1
    ·show _∈(m.made++[_]).map _;rw[aep];exact List.mem_append_left _ s2
   ·rcases key x hx with h|rfl
    ·exact hg.vP x h
    ·show S (vZ a.id) m.kept+S (yh a.id) m.kept<aK;rw[z1,z3];decide
   ·rcases key x hx with h|rfl
    ·exact hg.sW x h
    ·show S (wa a.id) m.kept+S (yi a.id) m.kept<aK;rw[z2,z4];decide
   ·rcases key x hx with h|rfl
    ·exact hg.qU x h
    ·show S (qm a.id) m.kept<=1;rw[z5];decide
def Model.Nv{m:Model}{id:Nat}{k:Kept}(h:m.named id=some k):∃i,m.name id=some i/\∃hi:i<m.kept.length,m.kept[i]=k/\k.move.id=id:=by
 unfold Model.named at h;rw[y4] at h;unfold Model.name;cases hx:m.kept.findIdx? (λk=>decide (k.move.id=id)) with
 |none=>rw[hx] at h;cases h
 |some i=>
  rw[hx] at h;simp only[Option.bind_some] at h;obtain⟨hi,hk⟩:=adU.1 h;refine⟨i,rfl,hi,hk,?_⟩;have:=(List.findIdx?_eq_some_iff_getElem.1 hx);obtain⟨_,hp,_⟩:=this;rw[hk] at hp;simpa using hp
def Model.KT{m:Model}{id:Nat}(h:m.named id=none):m.name id=none:=by
 unfold Model.named at h;rw[y4] at h;unfold Model.name;cases hx:m.kept.findIdx? (λk=>decide (k.move.id=id)) with
 |none=>rfl
 |some i=>
  rw[hx] at h;simp only[Option.bind_some] at h;have:=(List.findIdx?_eq_some_iff_getElem.1 hx).1;rw[adS this] at h;cases h
def KS{l:List Kept}(hn:(l.map (·.move.id)).Nodup){i j:Nat}(hi:i<l.length)(hj:j<l.length)(h:l[i].move.id=l[j].move.id):i=j:=by
 have e1:(l.map (·.move.id))[i]?=some (l[i].move.id):=by rw[aeF,adS hi];rfl
 have e2:(l.map (·.move.id))[j]?=some (l[i].move.id):=by rw[aeF,adS hj,h];rfl
 exact(List.getElem?_inj (by simpa using hi) hn).1 (e1.trans e2.symm)
def Gu{l:List Kept}(hn:(l.map (·.move.id)).Nodup){i:Nat}(hi:i<l.length)(h1:l[i].fate=1)(f:Int):(l.map λk=>if k.move.id=l[i].move.id/\k.fate=1 then{k with fate:=f} else k)=l.set i {l[i] with fate:=f}:=by
 apply afb;intro j;rw[aeF,aeo];by_cases Hh:i=j
 ·subst Hh;rw[adS hi,if_pos rfl,if_pos hi,aeD,if_pos ⟨rfl,h1⟩]
 ·rw[if_neg Hh];cases hj:l[j]? with
  |none=>rfl
  |some k=>
   obtain⟨NQ,hk⟩:=adU.1 hj;rw[aeD,if_neg];rintro⟨hh,_⟩;rw[<-hk] at hh;exact Hh (KS hn hi NQ hh.symm)
def oo{m:Model}{i:Nat}(hi:i<m.kept.length)(f:Int):(m.cL i f).kept=m.kept.set i {m.kept[i] with fate:=f}:=by
 unfold Model.cL;rw[modify_eq _ _ _ hi]
def Ground.cL{m:Model}(hg:Ground m){i:Nat}(hi:i<m.kept.length)(h1:m.kept[i].fate=1){f:Int}(hf:f=2\/f=3\/f=4):Ground (m.cL i f):=by
 have hk:=oo (m:=m) hi f;have mg:=aeg hi;have hw:has m.kept[i].move.flags 2:=(hg.tg _ mg).2.2.2 (by omega);have adh:(m.cL i f).made=m.made:=rfl;have key:∀k∈(m.cL i f).kept,∃k0∈m.kept,k.move=k0.move/\k.asked=k0.asked/\(k=k0\/k.fate=f/\k0.fate=1):=λk JN=>by
  rw[hk] at JN;rcases aeI JN with h|h
  ·exact⟨k,h,rfl,rfl,.inl rfl⟩
  ·subst h;exact⟨m.kept[i],mg,rfl,rfl,.inr ⟨rfl,h1⟩⟩
 refine⟨hg.zero,hg.ids,hg.lH,?_,λk JN=>?_,λk JN=>?_,?_,λa ha=>?_,λa ha=>?_,λa ha=>?_⟩
 ·rw[hk,List.map_set];have:m.kept[i].move.id=(m.kept.map (·.move.id))[i]'(by simpa using hi):=by simp
  have e:(m.kept.map (·.move.id)).set i ({m.kept[i] with fate:=f}:Kept).move.id=m.kept.map (·.move.id):=by
   show(m.kept.map (·.move.id)).set i m.kept[i].move.id=_;rw[this,List.set_getElem_self]
  rw[e];exact hg.names
 ·obtain⟨k0,h0,e1,e2,e3⟩:=key k JN;have:=hg.tg k0 h0;rcases e3 with rfl|⟨e3,e4⟩
  ·exact this
  ·rw[e1];have h2:=this.2.2.2 (by omega);exact⟨by omega,by omega,λ_=>by omega,λ_=>h2⟩
 ·obtain⟨k0,h0,e1,e2,e3⟩:=key k JN;rw[e1];exact hg.tJ k0 h0
 ·rw[hk,aeX];exact hg.some_
 ·have:=hg.vP a ha;obtain⟨e1,e2,e3,e4,e5⟩:=ended hi h1 hw hf a.id;rw[hk];omega
 ·have:=hg.sW a ha;obtain⟨e1,e2,e3,e4,e5⟩:=ended hi h1 hw hf a.id;rw[hk];omega
 ·have:=hg.qU a ha;obtain⟨e1,e2,e3,e4,e5⟩:=ended hi h1 hw hf a.id;rw[hk];omega
def lX.release{b:ax}{m:Model}(hs:lX b m)(hg:Ground m){i:Nat}(hi:i<m.kept.length)(h1:m.kept[i].fate=1){f:Int}(hf:f=3\/f=4)(n:Nat):lX (b.release m.kept[i].move n f) (m.cL i f):=by
 have mg:=aeg hi;have hw:has m.kept[i].move.flags 2:=(hg.tg _ mg).2.2.2 (by omega);obtain⟨gU,hd,hc⟩:=hg.tJ _ mg;obtain⟨d0,Eg,EV⟩:=aeC.1 hd;obtain⟨c0,Mc,Eh⟩:=aeC.1 hc;have fd:b.find m.kept[i].move.aF=some (Md.full m.kept d0):=by
  rw[hs.find];unfold Model.find;rw[<-EV,mW hg.ids Eg];rfl
 have fc:b.find m.kept[i].move.ar=some (Md.full m.kept c0):=by
  rw[hs.find];unfold Model.find;rw[<-Eh,mW hg.ids Mc];rfl
 unfold ax.release;rw[fd,fc];have hk:=oo (m:=m) hi f;refine⟨?_,?_,hs.clock,hs.ae⟩
 ·show((b.ag.map _).map _)=m.made.map (Md.full (m.cL i f).kept);rw[hk,hs.ag,aft,aft];apply ae9;intro a ha;have hz:=hg.zero a ha;have:=Ft (l:=m.kept) (n:=n) (a:=a) (d:=Md.full m.kept d0) (c:=Md.full m.kept c0) hi h1 hw (.inr hf) gU hz.2.2.2.2.1 hz.2.2.2.2.2 (hg.qU a ha) EV Eh
   (λh=>by
    have e:(m.find m.kept[i].move.aF).map (Md.full m.kept)=some (Md.full m.kept d0):=by rw[<-hs.find];exact fd
    exact hg.one e ha h)
   (λh=>by
    have e:(m.find m.kept[i].move.ar).map (Md.full m.kept)=some (Md.full m.kept c0):=by rw[<-hs.find];exact fc
    exact hg.one e ha h)
  refine Eq.trans this ?_;have h2: ¬f=2:=by omega
  obtain⟨e1,e2,e3,e4,e5⟩:=ended hi h1 hw (.inr hf) a.id;rw[if_neg (λhh=>h2 hh.1),if_neg (λhh=>h2 hh.1)];unfold Md.full;dsimp only;rw[e3,e4]
  rfl
 ·show(b.kept.map _)=_;rw[hs.kept,hk];exact Gu hg.names hi h1 f
def Gy{t:Move}{named:Option Kept}{k:Kept}{d1 c1 d2 c2:Bool}{many:Nat}(h:has k.move.flags 2-> ¬1<k.fate->d1=d2/\c1=c2):kK t named (some k) d1 c1 many=kK t named (some k) d2 c2 many:=by
 unfold kK;split
 ·rfl
 split
 ·rfl
 split
 ·rfl
 ·dsimp only;split
  ·rfl
  rename_i h2;split
  ·rfl
  split
  ·rfl
  rename_i h3;obtain⟨e1,e2⟩:=h (ad6.1 h2) h3;rw[e1,e2]
def Bv{t:Move}{named:Option Kept}{k:Kept}{d c:Bool}{many:Nat}(h:kK t named (some k) d c many=0)(hk:0<=k.fate):named=none/\kz t=0/\gv t.flags/\has k.move.flags 2/\ ¬1<k.fate/\ ¬iO t k.move/\many<96:=by
 unfold kK at h;by_cases h1:kz t≠0
 ·rw[if_pos h1] at h;exact absurd h h1
 rw[if_neg h1] at h;by_cases h2: ¬gv t.flags
 ·rw[if_pos h2] at h;exact absurd h (by decide)
 rw[if_neg h2] at h;cases named with
 |some x=>exact absurd h (oD t x.asked)
 |none=>
  dsimp only at h;by_cases h3: ¬has k.move.flags 2
  ·rw[if_pos h3] at h;exact absurd h (by decide)
  rw[if_neg h3] at h;by_cases h4:c7 t k.move
  ·rw[if_pos h4] at h;exact absurd h (by decide)
  rw[if_neg h4] at h;by_cases h5:1<k.fate
  ·rw[if_pos h5] at h;omega
  rw[if_neg h5] at h;by_cases h6:iO t k.move
  ·rw[if_pos h6] at h;exact absurd h (by decide)
  rw[if_neg h6] at h;by_cases h7:has t.flags 4/\d=true
  ·rw[if_pos h7] at h;exact absurd h (by decide)
  rw[if_neg h7] at h;by_cases h8:has t.flags 4/\c=true
  ·rw[if_pos h8] at h;exact absurd h (by decide)
  rw[if_neg h8] at h;by_cases h9:96<=many
  ·rw[if_pos h9] at h;exact absurd h (by decide)
  exact⟨rfl,ad6.1 h1,ad6.1 h2,ad6.1 h3,h5,h6,by omega⟩
def GG{t:Move}(h:kz t=0)(he:gv t.flags): ¬has t.flags 2/\(has t.flags 8↔ ¬has t.flags 4)/\ ¬has t.flags 64/\ ¬has t.flags 128:=by
 unfold kz at h;by_cases h1:t.flags<0\/255<t.flags
 ·rw[if_pos h1] at h;exact absurd h (by decide)
 rw[if_neg h1] at h;by_cases h2:t.id=0
 ·rw[if_pos h2] at h;exact absurd h (by decide)
 rw[if_neg h2] at h;by_cases h3:t.id=aK-1
 ·rw[if_pos h3] at h;exact absurd h (by decide)
 rw[if_neg h3] at h;by_cases h4: ¬ft t.flags
 ·rw[if_pos h4] at h;exact absurd h (by decide)
 have h4:=ad6.1 h4;unfold ft at h4;unfold gv at h4 he;obtain⟨g1,g2,g3⟩:=h4;refine⟨λh2=>?_,⟨λh8 h4=>g1 (.inr (.inr ⟨h4,h8⟩)),λh4=>he.resolve_left h4⟩,λRa=>?_,λH'=>?_⟩
 ·rcases he with he|he
  ·exact g1 (.inl ⟨h2,he⟩)
  ·exact g1 (.inr (.inl ⟨h2,he⟩))
 ·have: ¬16<=t.flags:=λhh=>g2 ⟨he,hh⟩;unfold has at Ra;omega
 ·have: ¬16<=t.flags:=λhh=>g2 ⟨he,hh⟩;unfold has at H';omega
def y7{b:ax}{m:Model}(hs:lX b m)(hg:Ground m){i:Nat}(hi:i<m.kept.length)(h1:m.kept[i].fate=1){id:Nat}{F:Int}
 (Hi:id=m.kept[i].move.aF/\F=64\/id=m.kept[i].move.ar/\F=128):b.iY id (has m.kept[i].move.flags F)=m.closed id i:=by
 have mg:=aeg hi;have hw:has m.kept[i].move.flags 2:=(hg.tg _ mg).2.2.2 (by omega);obtain⟨gU,hd,hc⟩:=hg.tJ _ mg;have Bm:id∈m.made.map (·.id):=by
  rcases Hi with⟨h,_⟩|⟨h,_⟩<;>rw[h]<;>assumption
 obtain⟨a,ha,X6⟩:=aeC.1 Bm;have hfm:m.find id=some a:=by unfold Model.find;rw[<-X6];exact mW hg.ids ha
 have hz:=hg.zero a ha;have hg3:=hg.cL hi h1 (f:=3) (.inr (.inl rfl));have SI:=oo (m:=m) hi 3;have Wf:=hg3.full (a:=a) ha;unfold Model.full at Wf;have e1:m.closed id i=decide (8<=(Md.full (m.cL i 3).kept a).flags):=by
  unfold Model.closed;rw[hfm];dsimp only;have:(m.kept.modify i λk=>{k with fate:=3})=(m.cL i 3).kept:=rfl;rw[this,Wf]
 have e2:b.iY id (has m.kept[i].move.flags F)=decide (8<=(Md.full m.kept a).flags/\ ¬has m.kept[i].move.flags F):=by
  unfold ax.iY;rw[hs.find,hfm]
  rfl
 rw[e1,e2,decide_eq_decide];have Ma:∀l,8<=(Md.full l a).flags↔S (qm a.id) l≠0:=λl=>by
  by_cases h0:S (qm a.id) l=0
  ·have:(Md.full l a).flags=a.flags:=if_pos h0;rw[this];exact⟨λh=>by omega,λh=>absurd h0 h⟩
  ·have:(Md.full l a).flags=a.flags%8+8:=if_neg h0;rw[this];exact⟨λ_=>h0,λ_=>by omega⟩
 rw[Ma,Ma,SI];obtain⟨_,_,_,_,e5⟩:=ended hi h1 hw (f:=3) (.inr (.inl rfl)) a.id;have lR:=hg.qU a ha;rcases Hi with⟨h,rfl⟩|⟨h,rfl⟩
 ·have Ld:m.kept[i].move.aF=a.id:=by rw[X6,h]
  have JP: ¬m.kept[i].move.ar=a.id:=λhh=>gU (by rw[Ld,hh]);by_cases hF:has m.kept[i].move.flags 64
  ·rw[if_pos ⟨by decide,.inl ⟨hF,Ld⟩⟩] at e5;exact⟨λhh=>absurd hF hh.2,λhh=>absurd (show S (qm a.id) _=0 by omega) hh⟩
  ·rw[if_neg (by rintro⟨_,hh|hh⟩;exact hF hh.1;exact JP hh.2)] at e5;exact⟨λhh=>by have:=hh.1;omega,λhh=>⟨by omega,hF⟩⟩
 ·have JP:m.kept[i].move.ar=a.id:=by rw[X6,h]
  have Ld: ¬m.kept[i].move.aF=a.id:=λhh=>gU (by rw[hh,JP]);by_cases hF:has m.kept[i].move.flags 128
  ·rw[if_pos ⟨by decide,.inr ⟨hF,JP⟩⟩] at e5;exact⟨λhh=>absurd hF hh.2,λhh=>absurd (show S (qm a.id) _=0 by omega) hh⟩
  ·rw[if_neg (by rintro⟨_,hh|hh⟩;exact Ld hh.2;exact hF hh.1)] at e5;exact⟨λhh=>by have:=hh.1;omega,λhh=>⟨by omega,hF⟩⟩
def lX.lW{b:ax}{m:Model}{t:Move}(hs:lX b m)(hg:Ground m):(b.lW t).1=(m.lW t).1/\lX (b.lW t).2 (m.lW t).2/\Ground (m.lW t).2:=by
 unfold ax.lW Model.lW;rw[hs.D5,hs.D5,hs.kept];cases hp:m.named t.pending with
 |none=>
  rw[Model.KT hp];exact⟨rfl,hs,hg⟩
 |some k=>
  obtain⟨i,hn,hi,hk,_⟩:=Model.Nv hp;rw[hn];dsimp only;rw[adS hi,hk];dsimp only;have mg:k∈m.kept:=by rw[<-hk];exact aeg hi
  have ZH:=hg.tg k mg;have XU:kK t (m.named t.id) (some k) (b.iY k.move.aF (has k.move.flags 64)) (b.iY k.move.ar (has k.move.flags 128)) m.kept.length=kK t (m.named t.id) (some k) (m.closed k.move.aF i) (m.closed k.move.ar i) m.kept.length:=by
   refine Gy (λh2 h3=>?_);have h1:m.kept[i].fate=1:=by rw[hk];have:=ZH.2.2.1 h2;omega
   have c1:=y7 hs hg hi h1 (id:=k.move.aF) (F:=64) (by rw[hk];exact .inl ⟨rfl,rfl⟩);have c2:=y7 hs hg hi h1 (id:=k.move.ar) (F:=128) (by rw[hk];exact .inr ⟨rfl,rfl⟩);rw[hk] at c1 c2;exact⟨c1,c2⟩
  rw[XU];by_cases hr:kK t (m.named t.id) (some k) (m.closed k.move.aF i) (m.closed k.move.ar i) m.kept.length≠0
  ·rw[if_pos hr,if_pos hr];exact⟨rfl,hs,hg⟩
  rw[if_neg hr,if_neg hr];obtain⟨JK,pw,nj,hw,ZJ,uW,rN⟩:=Bv (ad6.1 hr) ZH.1;have h1:m.kept[i].fate=1:=by rw[hk];have:=ZH.2.2.1 hw;omega
  obtain⟨f2,f8,f64,f128⟩:=GG pw nj;have hf:bU t=2\/bU t=3:=by unfold bU;split<;>simp
  have UG:bU t=2\/bU t=3\/bU t=4:=by rcases hf with h|h<;>simp[h]
  have zV:bU t=2↔has t.flags 4:=by unfold bU;split<;>simp_all
  have Hj:=hg.cL hi h1 UG;have Q1:=oo (m:=m) hi (bU t);obtain⟨gU,hd,hc⟩:=hg.tJ k mg;obtain⟨d0,Eg,EV⟩:=aeC.1 hd;obtain⟨c0,Mc,Eh⟩:=aeC.1 hc;have fd:b.find k.move.aF=some (Md.full m.kept d0):=by
   rw[hs.find];unfold Model.find;rw[<-EV,mW hg.ids Eg];rfl
  have fc:b.find k.move.ar=some (Md.full m.kept c0):=by
   rw[hs.find];unfold Model.find;rw[<-Eh,mW hg.ids Mc];rfl
  have r1:∀id st ck,vZ id ⟨t,{jO t k.move with ae:=st,born:=ck},0⟩=0:=λid st ck=>if_neg (λhh=>absurd hh.1 (show ¬(0:Int)=1 by decide));have r2:∀id st ck,wa id ⟨t,{jO t k.move with ae:=st,born:=ck},0⟩=0:=λid st ck=>if_neg (λhh=>absurd hh.1 (show ¬(0:Int)=1 by decide));have rp:∀st ck,ie ⟨t,{jO t k.move with ae:=st,born:=ck},0⟩↔bU t=2:=λst ck=>by
   rw[zV];show(¬has t.flags 2/\ ¬has t.flags 8)↔_
   constructor
   ·rintro⟨_,hh⟩;by_cases h4:has t.flags 4
    ·exact h4
    ·exact absurd (f8.2 h4) hh
   ·intro h4;exact⟨f2,λh8=>f8.1 h8 h4⟩
  have r3:∀id st ck,yh id ⟨t,{jO t k.move with ae:=st,born:=ck},0⟩=if bU t=2/\k.move.aF=id then bM t k.move else 0:=λid st ck=>by
   unfold yh;by_cases h:bU t=2/\k.move.aF=id
   ·rw[if_pos h,if_pos ⟨(rp st ck).2 h.1,h.2⟩];rfl
   ·rw[if_neg h,if_neg (λhh=>h ⟨(rp st ck).1 hh.1,hh.2⟩)]
  have r4:∀id st ck,yi id ⟨t,{jO t k.move with ae:=st,born:=ck},0⟩=if bU t=2/\k.move.ar=id then bM t k.move else 0:=λid st ck=>by
   unfold yi;by_cases h:bU t=2/\k.move.ar=id
   ·rw[if_pos h,if_pos ⟨(rp st ck).2 h.1,h.2⟩];rfl
   ·rw[if_neg h,if_neg (λhh=>h ⟨(rp st ck).1 hh.1,hh.2⟩)]
  have r5:∀id st ck,qm id ⟨t,{jO t k.move with ae:=st,born:=ck},0⟩=0:=λid st ck=>if_neg (λhh=>by
   rcases hh.1 with h|h
   ·exact f64 h.1
   ·exact f128 h.1)
  have Q':bU t=2->bM t k.move<=k.move.aB:=λh2=>by
   have h4:=zV.1 h2;by_cases aZ:k.move.aB<bM t k.move
   ·exact absurd (.inl ⟨h4,aZ⟩) uW
   ·omega
  refine⟨rfl,⟨?_,?_,?_,?_⟩,?_⟩
  ·unfold ax.release;rw[fd,fc];show((b.ag.map _).map _)=m.made.map (Md.full ((m.cL i (bU t)).kept++[_]));rw[Q1,hs.ag,aft,aft];apply ae9;intro a ha;have hz:=hg.zero a ha;have:=Ft (l:=m.kept) (n:=bM t k.move) (a:=a) (d:=Md.full m.kept d0) (c:=Md.full m.kept c0) hi h1 (by rw[hk];exact hw) UG (by rw[hk];exact gU) hz.2.2.2.2.1 hz.2.2.2.2.2 (hg.qU a ha) (by rw[hk];exact EV) (by rw[hk];exact Eh)
    (λh=>by
     rw[hk] at h
     have e:(m.find k.move.aF).map (Md.full m.kept)=some (Md.full m.kept d0):=by rw[<-hs.find];exact fd
     exact hg.one e ha h)
    (λh=>by
     rw[hk] at h
     have e:(m.find k.move.ar).map (Md.full m.kept)=some (Md.full m.kept c0):=by rw[<-hs.find];exact fc
     exact hg.one e ha h)
   rw[hk] at this;refine Eq.trans this ?_;obtain⟨e1,e2,e3,e4,e5⟩:=ended hi h1 (by rw[hk];exact hw) UG a.id;rw[hk] at e3 e4;rw[Dm,wZ,r1,r2,r3,r4,hk];have Hi:(Md.full (m.kept.set i {k with fate:=bU t}) a).id=a.id:=rfl;rw[Hi];have aaA: ¬gH a.id ⟨t,{jO t k.move with ae:=(m.cL i (bU t)).ae+1,born:=(m.cL i (bU t)).clock},0⟩:=λhh=>by
    rcases hh.1 with h|h
    ·exact f64 h.1
    ·exact f128 h.1
   rw[if_neg aaA];have q1:(Md.full m.kept a).dq=a.dq+S (yh a.id) m.kept:=rfl;have q2:(Md.full m.kept a).cq=a.cq+S (yi a.id) m.kept:=rfl;rw[q1,q2,<-e3,<-e4]
   rfl
  ·unfold ax.release;rw[fd,fc];show(b.kept.map _)++[_]=(m.cL i (bU t)).kept++[_];have hms:(m.cL i (bU t)).ae=m.ae:=rfl;have hmc:(m.cL i (bU t)).clock=m.clock:=rfl;rw[Q1,hs.kept,hms,hmc]
   congr 1
   ·have:=Gu hg.names hi h1 (bU t);rw[hk] at this⊢;exact this
   ·show[(⟨t,{jO t k.move with ae:=b.ae+1,born:=b.clock},0⟩:Kept)]=_;rw[hs.ae,hs.clock]
  ·unfold ax.release;rw[fd,fc];exact hs.clock
  ·unfold ax.release;rw[fd,fc];show b.ae+1=m.ae+1;rw[hs.ae]
  ·refine⟨Hj.zero,Hj.ids,Hj.lH,?_,λx hx=>?_,λx hx=>?_,?_,λa ha=>?_,λa ha=>?_,λa ha=>?_⟩
   ·show(((m.cL i (bU t)).kept++[_]).map _).Nodup;rw[aep,List.nodup_append];refine⟨Hj.names,by simp,λx hx y hy=>?_⟩;simp only[aet,afs,List.mem_singleton] at hy;rw[Q1,List.map_set] at hx;have e:(m.kept.map (·.move.id)).set i ({m.kept[i] with fate:=bU t}:Kept).move.id=m.kept.map (·.move.id):=by
     have:m.kept[i].move.id=(m.kept.map (·.move.id))[i]'(by simpa using hi):=by simp
     show(m.kept.map (·.move.id)).set i m.kept[i].move.id=_;rw[this,List.set_getElem_self]
    rw[e] at hx;obtain⟨z,hz,rfl⟩:=aeC.1 hx;intro V8;unfold Model.named at JK;have:=afc.1 JK z hz;rw[hy] at V8;have h5:z.move.id=t.id:=V8;simp[h5] at this
   ·rcases aew.1 hx with hx|hx
    ·exact Hj.tg x hx
    ·simp only[List.mem_singleton] at hx;subst hx;refine⟨by show(0:Int)<=0;decide,by show(0:Int)<=4;decide,?_⟩;show has t.flags 2↔(1:Int)<=0;exact⟨λh=>absurd h f2,λh=>absurd h (by decide)⟩
   ·rcases aew.1 hx with hx|hx
    ·exact Hj.tJ x hx
    ·simp only[List.mem_singleton] at hx;subst hx;exact⟨gU,hd,hc⟩
   ·show((m.cL i (bU t)).kept++[_]).length<=96;rw[adV,aff,Q1,aeX];omega
   ·show S (vZ a.id) ((m.cL i (bU t)).kept++[_])+S (yh a.id) ((m.cL i (bU t)).kept++[_])<aK;rw[rv,rv,r1,r3,Q1];obtain⟨e1,e2,e3,e4,e5⟩:=ended hi h1 (by rw[hk];exact hw) UG a.id;have:=hg.vP a ha;rw[hk] at e1 e3;rw[hk];by_cases hq:bU t=2/\k.move.aF=a.id
    ·have:=Q' hq.1;rw[if_pos hq.2] at e1;rw[if_pos hq];omega
    ·rw[if_neg hq];omega
   ·show S (wa a.id) ((m.cL i (bU t)).kept++[_])+S (yi a.id) ((m.cL i (bU t)).kept++[_])<aK;rw[rv,rv,r2,r4,Q1];obtain⟨e1,e2,e3,e4,e5⟩:=ended hi h1 (by rw[hk];exact hw) UG a.id;have:=hg.sW a ha;rw[hk] at e2 e4;rw[hk];by_cases hq:bU t=2/\k.move.ar=a.id
    ·have:=Q' hq.1;rw[if_pos hq.2] at e2;rw[if_pos hq];omega
    ·rw[if_neg hq];omega
   ·show S (qm a.id) ((m.cL i (bU t)).kept++[_])<=1;rw[rv,r5,Q1];obtain⟨e1,e2,e3,e4,e5⟩:=ended hi h1 (by rw[hk];exact hw) UG a.id;have:=hg.qU a ha;rw[hk] at e5;rw[hk];omega
def lX.nW{b:ax}{m:Model}{t:Move}(hs:lX b m)(hg:Ground m):(b.nW t).1=(m.nW t).1/\lX (b.nW t).2 (m.nW t).2/\Ground (m.nW t).2:=by
 unfold ax.nW Model.nW;split
 ·exact hs.lW hg
 ·exact hs.move hg
def Gv{m:Model}{i:Nat}(hi:i<m.kept.length)(clock:Int):((m.cL i 4).kept.map λk=>if jq clock k then{k with fate:=4} else k)=(m.kept.map λk=>if jq clock k then{k with fate:=4} else k)\/ ¬jq clock m.kept[i]:=by
 by_cases ho:jq clock m.kept[i]
 ·left
  rw[oo hi];apply afb;intro j;rw[aeF,aeF,aeo];by_cases Hh:i=j
  ·subst Hh;rw[if_pos rfl,if_pos hi,adS hi,aeD,aeD,if_pos ho];rw[if_neg (by rintro⟨hh,_⟩;exact absurd hh (show ¬(4:Int)=1 by decide))]
  ·rw[if_neg Hh]
 ·exact .inr ho
def Gw{m:Model}{clock:Int}(h:∀k∈m.kept,¬jq clock k):(m.kept.map λk=>if jq clock k then{k with fate:=4} else k)=m.kept:=by
 have:m.kept.map (λk=>if jq clock k then{k with fate:=4} else k)=m.kept.map id:=ae9 λk hk=>if_neg (h k hk);rw[this,List.map_id]
section
variable {α σ τ:Type}
def bm(linked:α->Bool):List α->Nat×Bool
 |[]=>(0,false)
 |x::l=>if linked x then((bm linked l).1+1,(bm linked l).2) else(1,true)
def fp(f:σ->α->Int×σ):σ->List α->Nat->Option (Nat×Int)×σ
 |s,[],_=>(none,s)
 |s,x::l,i=>if(f s x).1≠0 then(some (i,(f s x).1),s) else fp f (f s x).2 l (i+1)
def ij(n:Nat):Option (Nat×Int)->List Int
 |none=>ad8 n 0
 |some (i,c)=>(ad8 n 1).set i c
def eO(f:σ->α->Int×σ)(linked:α->Bool):Nat->σ->List α->List Int×σ
 |0,s,_=>([],s)
 |_+1,s,[]=>([],s)
 |fuel+1,s,x::l=>
  if(bm linked (x::l)).2=false then(ij (bm linked (x::l)).1 (some ((bm linked (x::l)).1-1,2)),s)
  else match fp f s ((x::l).take (bm linked (x::l)).1) 0 with
   |(none,s')=>(ij (bm linked (x::l)).1 none++(eO f linked fuel s' ((x::l).drop (bm linked (x::l)).1)).1,(eO f linked fuel s' ((x::l).drop (bm linked (x::l)).1)).2)
   |(some e,_)=>(ij (bm linked (x::l)).1 (some e)++(eO f linked fuel s ((x::l).drop (bm linked (x::l)).1)).1,(eO f linked fuel s ((x::l).drop (bm linked (x::l)).1)).2)
def Dt{f:σ->α->Int×σ}{g:τ->α->Int×τ}{R:σ->τ->Prop}(h:∀s t x,R s t->(f s x).1=(g t x).1/\R (f s x).2 (g t x).2):
 ∀(l:List α)(s:σ)(t:τ)(i:Nat),R s t->(fp f s l i).1=(fp g t l i).1/\((fp f s l i).1=none->R (fp f s l i).2 (fp g t l i).2)
 |[],s,t,i,hr=>⟨rfl,λ_=>hr⟩
 |x::l,s,t,i,hr=>by
  obtain⟨h1,h2⟩:=h s t x hr;unfold fp;rw[h1];by_cases h0:(g t x).1≠0
  ·rw[if_pos h0,if_pos h0];exact⟨rfl,λhh=>by cases hh⟩
  ·rw[if_neg h0,if_neg h0];exact Dt h l _ _ _ h2
def wz{f:σ->α->Int×σ}{g:τ->α->Int×τ}{R:σ->τ->Prop}(linked:α->Bool)(h:∀s t x,R s t->(f s x).1=(g t x).1/\R (f s x).2 (g t x).2):
 ∀(n:Nat)(l:List α)(s:σ)(t:τ),R s t->(eO f linked n s l).1=(eO g linked n t l).1/\R (eO f linked n s l).2 (eO g linked n t l).2
 |0,l,s,t,hr=>⟨rfl,hr⟩
 |n+1,[],s,t,hr=>⟨rfl,hr⟩
 |n+1,x::l,s,t,hr=>by
  unfold eO;by_cases hw:(bm linked (x::l)).2=false
  ·rw[if_pos hw,if_pos hw];exact⟨rfl,hr⟩
  rw[if_neg hw,if_neg hw];obtain⟨e1,e2⟩:=Dt h ((x::l).take (bm linked (x::l)).1) s t 0 hr;cases hf:fp f s ((x::l).take (bm linked (x::l)).1) 0 with
  |mk o s'=>
   cases hg:fp g t ((x::l).take (bm linked (x::l)).1) 0 with
   |mk o' t'=>
    rw[hf,hg] at e1 e2;dsimp only at e1 e2;subst e1;cases o with
    |none=>
     obtain⟨i1,i2⟩:=wz linked h n ((x::l).drop (bm linked (x::l)).1) s' t' (e2 rfl);dsimp only;rw[i1];exact⟨rfl,i2⟩
    |some e=>
     obtain⟨i1,i2⟩:=wz linked h n ((x::l).drop (bm linked (x::l)).1) s t hr;dsimp only;rw[i1];exact⟨rfl,i2⟩
end
end Go.Md
namespace Go.Up
open Go.Sep Go.Den Go.RowKit Go.Prog Go.Md Go.bC
abbrev ax:=Go.Md.ax
structure AG(a:aP):Prop where
 ok:vf a
 vL:mw a
 flags:0<=a.flags/\a.flags<16
 ae:0<=a.ae/\a.ae<1000
structure KG(k:Kept):Prop where
 asked:uX k.asked
 move:uX k.move
 IE:jT k.asked
 Jr:jT k.move
 qw:0<=k.asked.flags/\k.asked.flags<256
 rI:0<=k.move.flags/\k.move.flags<256
 fate:0<=k.fate/\k.fate<=4
 timeout:0<=k.move.timeout/\k.move.timeout<=1073741824
 born:0<=k.move.born/\k.move.born<=1099511627776
structure Good(b:ax):Prop where
 ids:(b.ag.map (·.id)).Nodup
 names:(b.kept.map (·.move.id)).Nodup
 lH:b.ag.length<=32
 many:b.kept.length<=96
 Mj:∀a∈b.ag,AG a
 L1:∀k∈b.kept,KG k
 rising:b.kept.Pairwise λx y=>x.move.ae<y.move.ae
 stamps:∀k∈b.kept,1<=k.move.ae/\k.move.ae<=b.ae
 clock:0<=b.clock/\b.clock<=1099511627776
 ae:b.ae=b.ag.length+b.kept.length
def idxOf{α:Type}(key:α->Nat)(l:List α):(Nat->Option Int)×Nat:=(λid=>(l.findIdx? λx=>key x=id).map Int.ofNat,l.length)
section
variable {α:Type} {key:α->Nat} {l:List α} {x y:α} {i id:Nat}
def rM(h:l.findIdx? (λx=>key x=id)=some i):∃hi:i<l.length,key l[i]=id/\l.find? (λx=>key x=id)=some l[i]:=by
 obtain⟨hi,h1,h2⟩:=List.findIdx?_eq_some_iff_getElem.1 h;refine⟨hi,by simpa using h1,?_⟩;rw[List.find?_eq_some_iff_getElem];exact⟨h1,i,hi,rfl,λj hj=>by simpa using h2 j hj⟩
def wU(h:l.findIdx? (λx=>key x=id)=none):l.find? (λx=>key x=id)=none:=by
 rw[List.findIdx?_eq_none_iff] at h;rw[afc];intro a ha;have:=h a ha;simpa using this
def mK(h:l.find? (λx=>key x=id)=none):l.findIdx? (λx=>key x=id)=none:=by
 rw[afc] at h;rw[List.findIdx?_eq_none_iff];intro a ha;have:=h a ha;simpa using this
def wT(h:l.find? (λa=>key a=key x)=none):idxOf key (l++[x])=(sg (idxOf key l).1 (key x) (some (l.length:Int)),(idxOf key l).2+1):=by
 unfold idxOf;refine Prod.ext ?_ (by simp)
 funext id
 dsimp only[sg];rw[List.findIdx?_append];by_cases e:id=key x
 ·subst e;rw[if_pos rfl,mK h];simp
 ·rw[if_neg e];have:List.findIdx? (λa=>decide (key a=id)) [x]=none:=by simp;exact λh=>e h.symm
  rw[this];cases l.findIdx? λx=>decide (key x=id)<;>simp
def JF(hi:i<l.length)(hk:key x=key l[i]):idxOf key (l.set i x)=idxOf key l:=by
 unfold idxOf;refine Prod.ext ?_ (by simp)
 funext id
 dsimp only
 congr 1
 have aam:∀(l:List α)(i:Nat)(hi:i<l.length),key x=key l[i]->(l.set i x).findIdx? (λx=>key x=id)=l.findIdx? λx=>key x=id:=by
  intro l
  induction l with
  |nil=>intro i hi;simp at hi
  |cons a l ih=>
   intro i hi hk;cases i with
   |zero=>simp only[List.set_cons_zero,List.findIdx?_cons];simp at hk;rw[hk]
   |succ i=>simp only[ae7,List.findIdx?_cons];rw[ih i (by simpa using hi) (by simpa using hk)]
 exact aam l i hi hk
def uz(hn:(l.map key).Nodup)(hi:i<l.length):l.findIdx? (λx=>key x=key l[i])=some i:=by
 rw[List.findIdx?_eq_some_iff_getElem];refine⟨hi,by simp,λj hj=>?_⟩;have aZ:j<l.length:=by omega
 have:=aeY.1 hn j i (by simpa using aZ) (by simpa using hi) hj;simpa using this
def map_set(hn:(l.map key).Nodup)(hi:i<l.length)(g:α->α):(l.map λx=>if key x=key l[i] then g x else x)=l.set i (g l[i]):=by
 apply List.ext_getElem (by simp);intro j h1 h2;simp only[aei] at h1;rw[List.getElem_map,List.getElem_set];by_cases e:i=j
 ·subst e;simp
 ·rw[if_neg e,if_neg];intro hk;have a:=uz hn h1;rw[hk,uz hn hi] at a;exact e (aec.inj a)
end
def cO:Nat->List Kept->List ki
 |_,[]=>[]
 |i,k::l=>(k.move.ae,(i:Int))::cO (i+1) l
def iM:∀(i:Nat)(l:List Kept),(cO i l).length=l.length
 |_,[]=>rfl
 |i,k::l=>by simp[cO,iM (i+1) l]
def iN:∀(i:Nat)(l:List Kept)(j:Nat),(cO i l)[j]?=(l[j]?).map λk=>(k.move.ae,((i+j:Nat):Int))
 |_,[],j=>by simp[cO]
 |i,k::l,0=>by simp[cO]
 |i,k::l,j+1=>by simp only[cO,ad9,iN (i+1) l j];rw[show i+1+j=i+(j+1) by omega]
def q9:∀(i:Nat)(l:List Kept)(k:Kept),cO i (l++[k])=cO i l++[(k.move.ae,((i+l.length:Nat):Int))]
 |i,[],k=>by simp[cO]
 |i,x::l,k=>by simp only[ae5,cO,q9 (i+1) l k];simp;omega
def wo{i:Nat}{l:List Kept}{x:ki}(h:x∈cO i l):∃k∈l,x.1=k.move.ae:=by
 obtain⟨j,hj⟩:=afa h;rw[iN] at hj;cases hk:l[j]? with
 |none=>rw[hk] at hj;cases hj
 |some k=>rw[hk] at hj;cases hj;exact⟨k,aek hk,rfl⟩
def DL{l:List Kept}{j:Nat}{k:Kept}(i:Nat)(hj:j<l.length)(hk:k.move.ae=l[j].move.ae):cO i (l.set j k)=cO i l:=by
 apply afb;intro n;rw[iN,iN,aeo];by_cases e:j=n
 ·subst e;rw[if_pos rfl,if_pos hj,adS hj];simp[hk]
 ·rw[if_neg e]
def df(k:Kept):Option Item:=if k.fate=1/\0<k.move.timeout then some ⟨k.move.born+k.move.timeout,k.move.ae,k.move.id⟩ else none
abbrev D9(l:List aP):=idxOf (λx:aP=>x.id) l
abbrev B1(l:List Kept):=idxOf (λx:Kept=>x.move.id) l
def cZ(b:ax):C:=⟨b.ag,b.kept,D9 b.ag,B1 b.kept,cO 0 b.kept,b.kept.filterMap df,b.clock,b.ae⟩
def nq{k:Kept}{x:Item}(h:df k=some x):x.ae=k.move.ae/\x.id=k.move.id/\x.due=k.move.born+k.move.timeout/\k.fate=1/\0<k.move.timeout:=by
 unfold df at h;split at h
 ·rename_i hc;cases h;exact⟨rfl,rfl,rfl,hc⟩
 ·cases h
section
variable {b:ax}
def Good.tL(h:Good b):oF (cO 0 b.kept):=by
 unfold oF;rw[aeY];intro i j hi hj Hh;have qA:i<b.kept.length:=by simpa [iM] using hi
 have Hg:j<b.kept.length:=by simpa [iM] using hj
 have e1:=iN 0 b.kept i;have e2:=iN 0 b.kept j;rw[adS hi,adS qA] at e1;rw[adS hj,adS Hg] at e2;have e1:=aec.inj e1;have e2:=aec.inj e2;rw[e1,e2];exact aeY.1 h.rising i j qA Hg Hh
def xf(b:ax):(b.kept.filterMap df).length<=b.kept.length:=List.length_filterMap_le _ _
def Good.Km(h:Good b){i j:Nat}(hi:i<b.kept.length)(hj:j<b.kept.length)(he:b.kept[i].move.ae=b.kept[j].move.ae):i=j:=by
 rcases Nat.lt_trichotomy i j with h1|h1|h1
 ·have:=aeY.1 h.rising i j hi hj h1;omega
 ·exact h1
 ·have:=aeY.1 h.rising j i hj hi h1;omega
def Good.N8(h:Good b){i:Nat}(hi:i<b.kept.length){k:Kept}(hk:df k=none){x:Item}(hx:df b.kept[i]=some x):
 (x::(b.kept.set i k).filterMap df).Perm (b.kept.filterMap df)/\∀y∈(b.kept.set i k).filterMap df,y.ae≠x.ae:=by
 constructor
 ·have key:∀(l:List Kept)(i:Nat)(hi:i<l.length),df l[i]=some x->(x::(l.set i k).filterMap df).Perm (l.filterMap df):=by
   intro l
   induction l with
   |nil=>intro i hi;simp at hi
   |cons a l ih=>
    intro i hi hx;cases i with
    |zero=>
     simp only[List.set_cons_zero,List.getElem_cons_zero] at hx⊢;rw[List.filterMap_cons_none hk,List.filterMap_cons_some hx]
    |succ i=>
     simp only[ae7,List.getElem_cons_succ] at hx⊢;have:=ih i (by simpa using hi) hx;cases ha:df a with
     |none=>rw[List.filterMap_cons_none ha,List.filterMap_cons_none ha];exact this
     |some y=>rw[List.filterMap_cons_some ha,List.filterMap_cons_some ha];exact(aej.swap _ _ _).trans (this.cons y)
  exact key _ i hi hx
 ·intro y hy he;obtain⟨a,ha,hay⟩:=List.mem_filterMap.1 hy;obtain⟨j,hj⟩:=afa ha;rw[aeo] at hj;by_cases e:i=j
  ·subst e;rw[if_pos rfl,if_pos hi] at hj;cases hj;rw[hk] at hay;cases hay
  ·rw[if_neg e] at hj;have NQ:=(adU.1 hj).1;have s1:=(nq hay).1;have s2:=(nq hx).1;have UC:b.kept[j]=a:=by rw[adS NQ] at hj;exact aec.inj hj
   exact e (h.Km hi NQ (by rw[UC];omega))
def Cs{l:List Kept}{i:Nat}(hi:i<l.length){k:Kept}(hk:df k=none)(hx:df l[i]=none):(l.set i k).filterMap df=l.filterMap df:=by
 induction l generalizing i with
 |nil=>simp at hi
 |cons a l ih=>
  cases i with
  |zero=>simp only[List.set_cons_zero,List.getElem_cons_zero] at hx⊢;rw[List.filterMap_cons_none hk,List.filterMap_cons_none hx]
  |succ i=>
   simp only[ae7,List.getElem_cons_succ] at hx⊢;rw[List.filterMap_cons,List.filterMap_cons,ih (by simpa using hi) hx]
end
def Ext(c:C)(hs:List C)(c':C)(cU:List C)(n:Nat):Prop:=∃T6,cU=T6++hs/\(c'::T6).getLast?=some c/\T6.length<=n
def Ext.refl(c:C)(hs:List C)(n:Nat):Ext c hs c hs n:=⟨[],rfl,rfl,ad2 _⟩
def Ext.trans{c c' c'':C}{hs cU tt:List C}{n m:Nat}(h1:Ext c hs c' cU n)(h2:Ext c' cU c'' tt m):Ext c hs c'' tt (n+m):=by
 obtain⟨m1,rfl,h3,h4⟩:=h1;obtain⟨m2,rfl,h5,h6⟩:=h2;refine⟨m2++m1,by simp,?_,by simp;omega⟩;cases m1 with
 |nil=>simp at h3;subst h3;simpa using h5
 |cons a m1=>
  rw[List.getLast?_cons_cons] at h3;rw[<-ae5,List.getLast?_append,h3];rfl
def Ext.mono{c c':C}{hs cU:List C}{n m:Nat}(h:Ext c hs c' cU n)(hm:n<=m):Ext c hs c' cU m:=by
 obtain⟨m1,h1,h3,h4⟩:=h;exact⟨m1,h1,h3,by omega⟩
def Ext.len{c c':C}{hs cU:List C}{n:Nat}(h:Ext c hs c' cU n):cU.length<=hs.length+n:=by
 obtain⟨m1,rfl,h3,h4⟩:=h;simp;omega
def Ext.back{c c':C}{hs cU:List C}{n:Nat}(h:Ext c hs c' cU n):qv hs.length c' cU=(c,hs):=by
 obtain⟨m1,rfl,h3,-⟩:=h
 induction m1 generalizing c' with
 |nil=>simp at h3;subst h3;exact zb (adY _)
 |cons a m1 ih=>
  rw[List.getLast?_cons_cons] at h3;rw[ae5];unfold qv;rw[if_pos (by simp)];exact ih h3
def bh(p:Nat)(x:ax×List C):HP:=LK (Good x.1) (cP p (cZ x.1,x.2))
section
variable {W:World} {L R:LH} {K:VK} {X:WK} {p:Nat} {b:ax} {hs:List C} {f:ax×List C->LH} {id:Nat} {a old:aP}
def G8[i:Lc (bh p) L (b,hs) f](h:∀la lk ti tn vs bx R,Good b->gh p la lk bx vs hs (cZ b)->
 (∀M b' cU B0 kA Y,Good b'->gh p la lk kA B0 cU (cZ b')->T W (M++f (b',cU)) Y->T W (M++dL p (dz la lk ti tn B0 (cZ b'))::nY ak 14 la (p,(cZ b').ag)::nY aJ 33 lk (p,(cZ b').kept)::kY ti (cZ b').lK::kY tn (cZ b').ef::rr kA::R) Y)->
 T W (dL p (dz la lk ti tn vs (cZ b))::nY ak 14 la (p,(cZ b).ag)::nY aJ 33 lk (p,(cZ b).kept)::kY ti (cZ b).lK::kY tn (cZ b).ef::rr bx::R) X):T W L X:=
 zH (P:=bh p) λR lR w hw=>by
  obtain⟨hg,hw⟩:=hw.and;refine Ov (λla lk ti tn vs bx hc=>h la lk ti tn vs bx R hg hc λM b' cU B0 kA Y Q3 Gl hy=>?_) w hw;refine T.perm (Ac (R:=M++R) Gl (T.perm ?_ ae4.symm)) (by
   have:=ad1 (l₁:=M) (l₂:=[dL p (dz la lk ti tn B0 (cZ b')),nY ak 14 la (p,(cZ b').ag),nY aJ 33 lk (p,(cZ b').kept),kY ti (cZ b').lK,kY tn (cZ b').ef,rr kA])|>.append_right R
   simpa using this)
  refine λw' L3=>lR M (b',cU) Y hy w' ?_;have:=(L3.perm ae4);exact(St.and_intro Q3 this).perm ae4.symm
def mT[i:Lc (bh p) L (b,hs) f](h:Good b->T W L X):T W L X:=λw hw=>by
 obtain⟨k,hk,_⟩:=i.at_;exact h ((hw.focus hk).and).1 w hw
def BZ{f1:Core->LH}{f2:Nat×List aP->LH}{f3:(Nat->Option Int)×Nat->LH}{q:Core}[i1:Lc (dL p) L q f1][i2:Lc (nY ak 14 q.la) L (p,b.ag) f2][i3:Lc (kY q.ti) L (D9 b.ag) f3](lH:b.ag.length<=32)
 (h:T W L (K (.tuple ⟨[.agg ⟨ak ((b.find id).getD zA)⟩,.bool (b.find id).isSome]⟩))):T W L (bX (some ⟨p,0,none⟩) (nm id) K):=by
 unfold bX;apply ws;intros;refine zg (t:=q.ti) (x:=D9 b.ag) ?_;cases hi:(b.ag.findIdx? λx=>x.id=id) with
 |none=>
  have e1:(D9 b.ag).1 id=none:=by show afv _ _=_;rw[hi];rfl
  have e2:b.find id=none:=wU (key:=λx:aP=>x.id) hi;rw[e1];rw[e2] at h;simp only[aey,aeq,aeK,aeu] at h⊢;apply ws;intros;exact T.dp h
 |some n=>
  have e1:(D9 b.ag).1 id=some (n:Int):=by show afv _ _=_;rw[hi];rfl
  obtain⟨hn,hk,hf⟩:=rM (key:=λx:aP=>x.id) hi;have e2:b.find id=some b.ag[n]:=hf;rw[e1];rw[e2] at h;simp only[aey,aeq,aeK,aeu] at h⊢;apply ws;intros;refine Zj (l:=q.la) (x:=b.ag[n]) (adS hn) (by omega) ?_;apply ws;intros;exact T.dp h
def sf[i:Lc (bh p) L (b,hs) f](h:T W L (K (.tuple ⟨[.agg ⟨ak ((b.find id).getD zA)⟩,.bool (b.find id).isSome]⟩))):T W L (bX (some ⟨p,0,none⟩) (nm id) K):=by
 have hL:f (b,hs)=L:=i.same;refine G8 (p:=p) λla lk ti tn vs bx R hg hc lR=>?_;exact BZ (b:=b) hg.lH (lR [] b hs vs bx _ hg hc (by rw[hL];exact h))
def EL{f1:Core->LH}{f2:Nat×List Kept->LH}{f3:(Nat->Option Int)×Nat->LH}{q:Core}[i1:Lc (dL p) L q f1][i2:Lc (nY aJ 33 q.lk) L (p,b.kept) f2][i3:Lc (kY q.tn) L (B1 b.kept) f3](lH:b.kept.length<=96)
 (h:T W L (K (.tuple ⟨[.agg ⟨aJ ((b.named id).getD zK)⟩,.bool (b.named id).isSome]⟩))):T W L (eu (some ⟨p,0,none⟩) (nm id) K):=by
 unfold eu;apply ws;intros;refine zg (t:=q.tn) (x:=B1 b.kept) ?_;cases hi:(b.kept.findIdx? λx=>x.move.id=id) with
 |none=>
  have e1:(B1 b.kept).1 id=none:=by show afv _ _=_;rw[hi];rfl
  have e2:b.named id=none:=wU (key:=λx:Kept=>x.move.id) hi;rw[e1];rw[e2] at h;simp only[aey,aeq,aeK,aeu] at h⊢;apply ws;intros;exact T.dp h
 |some n=>
  have e1:(B1 b.kept).1 id=some (n:Int):=by show afv _ _=_;rw[hi];rfl
  obtain⟨hn,hk,hf⟩:=rM (key:=λx:Kept=>x.move.id) hi;have e2:b.named id=some b.kept[n]:=hf;rw[e1];rw[e2] at h;simp only[aey,aeq,aeK,aeu] at h⊢;apply ws;intros;refine O4 (l:=q.lk) (x:=b.kept[n]) (adS hn) (by omega) ?_;apply ws;intros;exact T.dp h
def EK[i:Lc (bh p) L (b,hs) f](h:T W L (K (.tuple ⟨[.agg ⟨aJ ((b.named id).getD zK)⟩,.bool (b.named id).isSome]⟩))):T W L (eu (some ⟨p,0,none⟩) (nm id) K):=by
 have hL:f (b,hs)=L:=i.same;refine G8 (p:=p) λla lk ti tn vs bx R hg hc lR=>?_;exact EL (b:=b) hg.many (lR [] b hs vs bx _ hg hc (by rw[hL];exact h))
def OT[i:Lc (bh p) L (b,hs) f](h:T W L (K (.bool (decide (b.kept.length<96))))):T W L (kC (some ⟨p,0,none⟩) K):=by
 have hL:f (b,hs)=L:=i.same;refine G8 (p:=p) λla lk ti tn vs bx R hg hc lR=>?_;have fin:=lR [] b hs vs bx _ hg hc (by rw[hL];exact h);unfold kC
 repeat' first|apply ws;intros|apply wb|with_reducible refine II ?_|fail
 refine T.fin fin ?_
 congr 1
 rw[decide_eq_decide];show((b.kept.length:Nat):Int)<96↔_;omega
def Jb[i:Lc (bh p) L (b,hs) f](h:T W L (K (.i (hs.length:Int)))):T W L (cW (some ⟨p,0,none⟩) K):=by
 have hL:f (b,hs)=L:=i.same;refine G8 (p:=p) λla lk ti tn vs bx R hg hc lR=>?_;have fin:=lR [] b hs vs bx _ hg hc (by rw[hL];exact h);unfold cW;refine tG ?_;refine zk ?_;refine VD (p:=p) ?_;apply ws;intros;have:(dz la lk ti tn vs (cZ b)).vs.length=hs.length:=by show vs.reverse.length=_;rw[aeO,hc.len]
 rw[this];exact fin
def E9(hg:Good b){n:Nat}(hn:n<b.ag.length)(hk:b.ag[n].id=a.id):cZ (b.aD a)={cZ b with ag:=b.ag.set n {a with ae:=b.ag[n].ae}}:=by
 have e:(b.aD a).ag=b.ag.set n {a with ae:=b.ag[n].ae}:=by
  show(b.ag.map λx=>if x.id=a.id then{a with ae:=x.ae} else x)=_;have:=map_set (key:=λx:aP=>x.id) hg.ids hn λx=>{a with ae:=x.ae};simp only[hk] at this;exact this
 unfold cZ;have e9:D9 (b.ag.set n {a with ae:=b.ag[n].ae})=D9 b.ag:=JF hn hk.symm;rw[e,e9]
 rfl
def Good.aD(hg:Good b){n:Nat}(hn:n<b.ag.length)(hk:b.ag[n].id=a.id)(ha:AG {a with ae:=b.ag[n].ae}):Good (b.aD a):=by
 have e:(b.aD a).ag=b.ag.set n {a with ae:=b.ag[n].ae}:=congrArg C.ag (E9 hg hn hk);have aba:(b.aD a).ag.map (·.id)=b.ag.map (·.id):=by
  rw[e,List.map_set];refine List.ext_getElem (by simp) λi h1 h2=>?_;rw[List.getElem_set];split
  ·rename_i he;subst he;simp[hk]
  ·rfl
 refine⟨by rw[aba];exact hg.ids,hg.names,by rw[e,aeX];exact hg.lH,hg.many,?_,hg.L1,hg.rising,hg.stamps,hg.clock,?_⟩
 ·rw[e];intro x hx;rcases aeI hx with hx|hx
  ·exact hg.Mj x hx
  ·subst hx;exact ha
 ·rw[e,aeX];exact hg.ae
def EE[i:Lc (bh p) L (b,hs) f](hf:b.find a.id=some old)(ha:AG {a with ae:=old.ae})(hl:hs.length<900000)
 (h:∀cU,Ext (cZ b) hs (cZ (b.aD a)) cU 1->T W (f (b.aD a,cU)) (K (.i 0))):T W L (gO (some ⟨p,0,none⟩) (ak a) K):=by
 refine G8 (p:=p) λla lk ti tn vs bx R hg hc lR=>?_;have lH:=hg.lH;obtain⟨n,hi⟩:∃n,(b.ag.findIdx? λx=>x.id=a.id)=some n:=by
  cases hi:(b.ag.findIdx? λx=>x.id=a.id) with
  |none=>rw[show b.find a.id=none from wU (key:=λx:aP=>x.id) hi] at hf;cases hf
  |some n=>exact⟨n,rfl⟩
 obtain⟨hn,hk,Wf⟩:=rM (key:=λx:aP=>x.id) hi;have e2:b.find a.id=some b.ag[n]:=Wf;rw[hf] at e2;have e3:=aec.inj e2;subst e3;have e1:(D9 b.ag).1 a.id=some (n:Int):=by show afv _ _=_;rw[hi];rfl
 have Co:=E9 hg hn hk;have JH:(dz la lk ti tn vs (cZ b)).vs.length<1000000:=by show vs.reverse.length<_;rw[aeO,hc.len];omega
 unfold gO;apply ws;intros;refine BZ (b:=b) hg.lH ?_;rw[hf];simp only[aeq,aeu];apply ws;intros;refine zg (t:=ti) (x:=(cZ b).lK) ?_;rw[show(cZ b).lK.1 a.id=some (n:Int) from e1];simp only[aeq,aeu];apply ws;intros;refine VO (l:=la) (y:=b.ag[n]) (adS hn) (show b.ag.length<_ by omega) JH λr4 r1 r2=>?_;apply ws;intros;refine cz (cz (cz (cz (cz ?_))));have Ei:∀kA,(∀x∈bx,x∈kA)->(r4,ak b.ag[n])∈kA->(r1,[.p (some (ad la 0))])∈kA->(r2,[.i (n:Int)])∈kA->gh p la lk kA (Aa r4 r1 r2::vs) (cZ b::hs) (cZ (b.aD a)):=by
  intro kA uU m1 m2 m3;refine⟨?_,hc.mono uU⟩;have:=zh.P6 (p:=p) (la:=la) (lk:=lk) (c:=cZ (b.aD a)) m1 m2 m3 (by rw[Co];simpa using hn);have ee:{cZ (b.aD a) with ag:=(cZ (b.aD a)).ag.set n b.ag[n]}=cZ b:=by
   rw[Co];simp only[ae6,List.set_getElem_self]
   rfl
  rw[ee] at this;exact this
 have fin:=λkA c1=>lR [] (b.aD a) (cZ b::hs) (Aa r4 r1 r2::vs) kA _ (hg.aD hn hk ha) c1 (h _ ⟨[cZ b],rfl,rfl,adY _⟩);rw[Co] at fin;simp only[dz,afn] at fin;exact fin _ (Co▸Ei _ (λx hx=>by simp[hx]) (by simp) (by simp) (by simp))
end
section
variable {W:World} {L R:LH} {K:VK} {X:WK} {p:Nat} {b:ax} {hs:List C} {f:ax×List C->LH} {id:Nat} {a old:aP}
def Ke{q:Core}{f1:Core->LH}[i:Lc (dL p) L q f1](hl:q.vs.length<1000000)(hs:0<=q.ae/\q.ae<1000000)
 (h:∀r,T W (Sep.pt r [.p (some (ad p 0))]::f1 {q with vs:=q.vs++[wj r],ae:=q.ae+1}) (K (.i (q.ae+1)))):T W L (kB (some ⟨p,0,none⟩) K):=by
 unfold kB
 repeat' first|apply ws;intros|apply wb|with_reducible refine Hr ?_|fail
 rename_i r;rw[aw (by omega)];have i2:=i.next {q with ae:=q.ae+1};refine ry (p:=p) (q:={q with ae:=q.ae+1}) hl rfl rfl ?_;have i3:=i.next {q with vs:=q.vs++[wj r],ae:=q.ae+1};apply ws;intros;exact h r
def ax.more(b:ax)(a:aP):ax:={b with ae:=b.ae+1,ag:=b.ag++[{a with ae:=b.ae+1}]}
def Good.more(hg:Good b)(hf:b.find a.id=none)(lH:b.ag.length<32)(ha:AG {a with ae:=b.ae+1}):Good (b.more a):=by
 have pI:=hg.ae;have many:=hg.many;refine⟨?_,hg.names,by show(b.ag++[_]).length<=32;simp;omega,hg.many,?_,hg.L1,hg.rising,λk hk=>⟨(hg.stamps k hk).1,by have:=(hg.stamps k hk).2;show _<=b.ae+1;omega⟩,hg.clock,by show b.ae+1=(((b.ag++[_]).length:Nat):Int)+(b.kept.length:Int);simp;omega⟩
 ·show((b.ag++[_]).map _).Nodup;rw[aep];rw[List.nodup_append];refine⟨hg.ids,by simp,?_⟩;intro x hx y hy;simp at hy;subst hy;obtain⟨z,hz,rfl⟩:=aeC.1 hx;have:=afc.1 hf z hz;simpa using this
 ·intro x hx;rcases aew.1 hx with hx|hx
  ·exact hg.Mj x hx
  ·simp at hx;subst hx;exact ha
def T5(hf:b.find a.id=none):cZ (b.more a)={cZ b with ae:=b.ae+1,lK:=(sg (cZ b).lK.1 a.id (some (b.ag.length:Int)),(cZ b).lK.2+1),ag:=b.ag++[{a with ae:=b.ae+1}]}:=by
 have e9:D9 (b.ag++[{a with ae:=b.ae+1}])=(sg (D9 b.ag).1 a.id (some (b.ag.length:Int)),(D9 b.ag).2+1):=wT (key:=λx:aP=>x.id) (x:={a with ae:=b.ae+1}) hf;unfold cZ ax.more;dsimp only;rw[e9]
def E6{m:Nat->Option Int}{k:Nat}{v:Int}{n:Nat}(h:m k=none):(sg (sg m k (some v)) k none,n+1-1)=(m,n):=by
 refine Prod.ext ?_ rfl
 funext j
 dsimp only[sg];by_cases e:j=k
 ·subst e;rw[if_pos rfl,h]
 ·rw[if_neg e,if_neg e]
def P'[i:Lc (bh p) L (b,hs) f](hf:b.find a.id=none)(lH:b.ag.length<32)(ha:AG {a with ae:=b.ae+1})(hl:hs.length<900000)
 (h:∀cU,Ext (cZ b) hs (cZ (b.more a)) cU 3->T W (f (b.more a,cU)) (K (.i 0))):T W L (iZ (some ⟨p,0,none⟩) (ak a) K):=by
 refine G8 (p:=p) λla lk ti tn vs bx R hg hc lR=>?_;have pI:=hg.ae;have many:=hg.many;have kH:(D9 b.ag).1 a.id=none:=by show afv _ _=_;rw[mK (key:=λx:aP=>x.id) hf];rfl
 have JH:vs.reverse.length<900000:=by rw[aeO,hc.len];omega
 unfold iZ;apply ws;intros;refine IN (l:=la) ?_;apply ws;intros;refine dV (by show decide (((b.ag.length:Nat):Int)>=32)=false;simp;omega) ?_;apply ws;intros;refine zg (t:=ti) (x:=(cZ b).lK) ?_;rw[show(cZ b).lK.1 a.id=none from kH];simp only[aey,aeK];apply ws;intros;refine Ke (p:=p) (q:=dz la lk ti tn vs (cZ b)) (by show vs.reverse.length<_;omega) (by show 0<=b.ae/\b.ae<_;omega) λr3=>?_;apply ws;intros;refine IN (l:=la) ?_;apply ws;intros;refine Kc (t:=ti) (x:=(cZ b).lK) (show b.ag.length<=1000 by omega) kH ?_;apply ws;intros;refine ry (p:=p) (by show(vs.reverse++[_]).length<_;simp at JH⊢;omega) rfl rfl ?_;apply ws;intros;refine Pd (l:=la) (x:={a with ae:=b.ae+1}) (show b.ag.length<_ by omega) (by show((vs.reverse++[_])++[_]).length<_;simp at JH⊢;omega) λr4 r5=>?_;apply ws;intros;rename_i r1 r2;refine cz (cz (cz (cz (cz ?_))));have Co:=T5 (a:=a) hf;have Ei:∀kA,(∀x∈bx,x∈kA)->(r1,[.p (some (ad p 0))])∈kA->(r2,ak {a with ae:=b.ae+1})∈kA->(r3,[.p (some (ad p 0))])∈kA->(r4,[.p (some (ad la 0))])∈kA->(r5,[.i (b.ag.length:Int)])∈kA->
                                                                                                                                                                                                    gh p la lk kA (xm r4 r5::Mz r1 r2::wj r3::vs) ({cZ b with ae:=b.ae+1,lK:=(sg (cZ b).lK.1 a.id (some (b.ag.length:Int)),(cZ b).lK.2+1)}::{cZ b with ae:=b.ae+1}::cZ b::hs) (cZ (b.more a)):=by
  intro kA uU m1 m2 m3 m4 m5;refine⟨?_,?_,?_,hc.mono uU⟩
  ·have:=zh.RR (p:=p) (la:=la) (lk:=lk) (c:=cZ (b.more a)) m4 m5 (by show b.ag.length<=(b.ag++[_]).length;simp);have ee:{cZ (b.more a) with ag:=(cZ (b.more a)).ag.take b.ag.length}={cZ b with ae:=b.ae+1,lK:=(sg (cZ b).lK.1 a.id (some (b.ag.length:Int)),(cZ b).lK.2+1)}:=by
    rw[Co];dsimp only;rw[List.take_left];rfl
   rw[ee] at this;exact this
  ·have:=zh.open_ (p:=p) (la:=la) (lk:=lk) (c:={cZ b with ae:=b.ae+1,lK:=(sg (cZ b).lK.1 a.id (some (b.ag.length:Int)),(cZ b).lK.2+1)}) (x:={a with ae:=b.ae+1}) m1 m2 (show b.ag.length+1<=1000 by omega) (by show(sg _ _ _ _).isSome=true;unfold sg;rw[if_pos rfl];rfl) (E6 (show(cZ b).lK.1 a.id=none from kH));exact this
  ·exact zh.next (c:={cZ b with ae:=b.ae+1}) m3 (by show adP.wrap (b.ae+1-1)=b.ae;rw[aw (by omega)];omega)
 have fin:=λkA c1=>lR [] (b.more a) _ (xm r4 r5::Mz r1 r2::wj r3::vs) kA _ (hg.more hf lH ha) c1 (h _ ⟨[{cZ b with ae:=b.ae+1,lK:=(sg (cZ b).lK.1 a.id (some (b.ag.length:Int)),(cZ b).lK.2+1)},{cZ b with ae:=b.ae+1},cZ b],rfl,rfl,adY _⟩);rw[Co] at fin;simp only[dz,afn] at fin;exact fin _ (Co▸Ei _ (λx hx=>by simp[hx]) (by repeat (first|exact aeH.head _|apply aeH.tail)) (by repeat (first|exact aeH.head _|apply aeH.tail)) (by repeat (first|exact aeH.head _|apply aeH.tail)) (by repeat (first|exact aeH.head _|apply aeH.tail)) (by repeat (first|exact aeH.head _|apply aeH.tail)))
end
section
variable {W:World} {L R:LH} {K:VK} {X:WK} {p:Nat} {b:ax} {hs:List C} {f:ax×List C->LH} {id:Nat} {k:Kept} {asked t:Move} {fate:Int}
instance{x1 x2 x3 x4:Value}{x y:Int}{n:Nat}:Wr [x1,x2,x3,x4] 0 ([.i x,.i y]++(nm n++[])) (dG ⟨x,y,n⟩):=⟨by simp[over,dG,nm],by simp[nm],λv h=>mq ⟨x,y,n⟩ v (by simpa [dG] using h)⟩
def T.Ip{la lk ti tn:Nat}{vs:LV}{st:List ki}{e e':List Item}{x y:Int}(he:e.Perm e')(h:T W (dL p ⟨la,lk,ti,tn,vs,st,e',x,y⟩::R) X):T W (dL p ⟨la,lk,ti,tn,vs,st,e,x,y⟩::R) X:=T.Dw (q:=⟨la,lk,ti,tn,vs,st,e,x,y⟩) he h
def Im(k:Kept):Item:=⟨k.move.born+k.move.timeout,k.move.ae,k.move.id⟩
def Of(hk:KG k)(h:T W L (K (.tuple ⟨[.agg ⟨dG (Im k)⟩,.bool (df k).isSome]⟩))):T W L (pV (aJ k) K):=by
 have h1:=hk.timeout;have h2:=hk.born;unfold pV;apply ws;intros;rw[aw (by omega)];have hd:(df k).isSome=decide (k.fate=1/\0<k.move.timeout):=by
  unfold df;split
  ·rename_i hc;simp[hc]
  ·rename_i hc;simp[hc]
 rw[hd] at h;refine bE (λg=>?_) (λg=>?_)
 ·have g:k.fate=1:=by simpa using g
  apply ws;intros;refine T.fin (by exact T.dp h) ?_
  congr 3
  simp[g]
 ·have g: ¬k.fate=1:=by simpa using g
  apply ws;intros;refine T.fin (by exact T.dp h) ?_
  congr 3
  simp[g]
def Good.ka(hg:Good b)(hf:b.named t.id=none)(many:b.kept.length<96)(hk:KG ⟨asked,{t with ae:=b.ae+1,born:=b.clock},fate⟩):Good (b.ka asked t fate):=by
 have pI:=hg.ae;refine⟨hg.ids,?_,hg.lH,by show(b.kept++[_]).length<=96;simp;omega,hg.Mj,?_,?_,?_,hg.clock,by show b.ae+1=_+(((b.kept++[_]).length:Nat):Int);simp;show _=(b.ag.length:Int)+_;omega⟩
 ·show((b.kept++[_]).map _).Nodup;rw[aep,List.nodup_append];refine⟨hg.names,by simp,?_⟩;intro x hx y hy;simp at hy;subst hy;obtain⟨z,hz,rfl⟩:=aeC.1 hx;have:=afc.1 hf z hz;simpa using this
 ·intro x hx;rcases aew.1 hx with hx|hx
  ·exact hg.L1 x hx
  ·simp at hx;subst hx;exact hk
 ·show(b.kept++[_]).Pairwise _;rw[List.pairwise_append];refine⟨hg.rising,by simp,λx hx y hy=>?_⟩;simp at hy;subst hy;have:=(hg.stamps x hx).2;show _<b.ae+1;omega
 ·intro x hx;rcases aew.1 hx with hx|hx
  ·have:=hg.stamps x hx;show _/\_<=b.ae+1;omega
  ·simp at hx;subst hx;show 1<=b.ae+1/\b.ae+1<=b.ae+1;omega
abbrev o7(b:ax)(asked t:Move)(fate:Int):Kept:=⟨asked,{t with ae:=b.ae+1,born:=b.clock},fate⟩
def T8(hf:b.named t.id=none):cZ (b.ka asked t fate)={cZ b with ae:=b.ae+1,kept:=b.kept++[o7 b asked t fate],ef:=(sg (cZ b).ef.1 t.id (some (b.kept.length:Int)),(cZ b).ef.2+1),stamps:=(cZ b).stamps++[(b.ae+1,(b.kept.length:Int))],ends:=(cZ b).ends++(df (o7 b asked t fate)).toList}:=by
 have e9:B1 (b.kept++[o7 b asked t fate])=(sg (B1 b.kept).1 t.id (some (b.kept.length:Int)),(B1 b.kept).2+1):=wT (key:=λx:Kept=>x.move.id) (x:=o7 b asked t fate) hf;unfold cZ ax.ka;dsimp only;rw[e9,q9,List.filterMap_append,adW]
 congr 1
def Jc{waits:Bool}[i:Lc (bh p) L (b,hs) f](hf:b.named t.id=none)(many:b.kept.length<96)(hk:KG (o7 b asked t fate))(hw:fate=if waits then 1 else 0)(hl:hs.length<900000)
 (h:∀cU,Ext (cZ b) hs (cZ (b.ka asked t fate)) cU 4->T W (f (b.ka asked t fate,cU)) (K (.i 0))):T W L (eB (some ⟨p,0,none⟩) (ai asked) (ai t) waits K):=by
 refine G8 (p:=p) λla lk ti tn vs bx R hg hc lR=>?_;have pI:=hg.ae;have lH:=hg.lH;have kH:(B1 b.kept).1 t.id=none:=by show afv _ _=_;rw[mK (key:=λx:Kept=>x.move.id) hf];rfl
 have JH:vs.reverse.length<900000:=by rw[aeO,hc.len];omega
 unfold eB;apply ws;intros;refine II (l:=lk) ?_;apply ws;intros;refine dV (by show decide (((b.kept.length:Nat):Int)>=96)=false;simp;omega) ?_;apply ws;intros;refine zg (t:=tn) (x:=(cZ b).ef) ?_;rw[show(cZ b).ef.1 t.id=none from kH];simp only[aey,aeK];apply ws;intros;rename_i r1 r2 r3 r4;have main:T W (Sep.pt r4 (aJ ⟨asked,t,fate⟩)::Sep.pt r3 (ai t)::Sep.pt r2 (ai asked)::Sep.pt r1 [.p (some (ad p 0))]::dL p (dz la lk ti tn vs (cZ b))::nY ak 14 la (p,(cZ b).ag)::nY aJ 33 lk (p,(cZ b).kept)::kY ti (cZ b).lK::kY tn (cZ b).ef::rr bx::R) (eB.j1 K r1 r4 r3):=by
  unfold eB.j1;apply ws;intros;refine Ke (p:=p) (q:=dz la lk ti tn vs (cZ b)) (by show vs.reverse.length<_;omega) (by show 0<=b.ae/\b.ae<_;omega) λr5=>?_;apply ws;intros;refine O6 (l:=lk) (x:=o7 b asked t fate) (show b.kept.length<_ by omega) (by show(vs.reverse++[_]).length<_;simp at JH⊢;omega) λr6 r7=>?_;apply ws;intros;refine Kc (t:=tn) (x:=(cZ b).ef) (show b.kept.length<=1000 by omega) kH ?_;apply ws;intros;refine JX (p:=p) hg.tL (by show(cO 0 b.kept).length<_;rw[iM];omega) (λx hx=>by
   obtain⟨k,hk,e⟩:=wo hx
   have:=(hg.stamps k hk).2
   show x.1<b.ae+1
   omega) ?_
  apply ws;intros;refine ry (p:=p) (by show((vs.reverse++[_])++[_]).length<_;simp at JH⊢;omega) rfl rfl ?_;apply ws;intros;refine Of (k:=o7 b asked t fate) hk ?_;apply ws;intros;rename_i r8;have Co:=T8 (asked:=asked) (fate:=fate) hf;have Ei:∀kA,(∀x∈bx,x∈kA)->(r1,[.p (some (ad p 0))])∈kA->(r3,ai t)∈kA->(r4,aJ (o7 b asked t fate))∈kA->(r5,[.p (some (ad p 0))])∈kA->(r6,[.p (some (ad lk 0))])∈kA->(r7,[.i (b.kept.length:Int)])∈kA->
   gh p la lk kA (Ao r1 r3 r4::qV r6 r7::wj r5::vs) ({cZ b with ae:=b.ae+1,kept:=b.kept++[o7 b asked t fate]}::{cZ b with ae:=b.ae+1}::cZ b::hs)
    {cZ b with ae:=b.ae+1,kept:=b.kept++[o7 b asked t fate],ef:=(sg (cZ b).ef.1 t.id (some (b.kept.length:Int)),(cZ b).ef.2+1),stamps:=(cZ b).stamps++[(b.ae+1,(b.kept.length:Int))]}:=by
   intro kA uU m1 m2 m3 m4 m5 m6;refine⟨?_,?_,?_,hc.mono uU⟩
   ·exact zh.JC (p:=p) (la:=la) (lk:=lk) (c:={cZ b with ae:=b.ae+1,kept:=b.kept++[o7 b asked t fate],ef:=(sg (cZ b).ef.1 t.id (some (b.kept.length:Int)),(cZ b).ef.2+1),stamps:=(cZ b).stamps++[(b.ae+1,(b.kept.length:Int))]}) (t:=t) (k:=o7 b asked t fate) (l0:=(cZ b).stamps) m1 m2 m3 (show b.kept.length+1<=1000 by omega) (by show(sg _ _ _ _).isSome=true;unfold sg;rw[if_pos rfl];rfl)
     (by have:=(hg.ka hf many hk).tL
         have e:cO 0 (b.ka asked t fate).kept=(cZ b).stamps++[(b.ae+1,(b.kept.length:Int))]:=congrArg C.stamps Co
         rw[e] at this;exact this)
     (by show(cO 0 b.kept++[_]).length<_;rw[adV,iM];simp;omega) rfl (E6 (show(cZ b).ef.1 t.id=none from kH))
   ·have:=zh.RQ (p:=p) (la:=la) (lk:=lk) (c:={cZ b with ae:=b.ae+1,kept:=b.kept++[o7 b asked t fate]}) m5 m6 (by show b.kept.length<=(b.kept++[_]).length;simp);have ee:({({cZ b with ae:=b.ae+1,kept:=b.kept++[o7 b asked t fate]}:C) with kept:=(b.kept++[o7 b asked t fate]).take b.kept.length}:C)={cZ b with ae:=b.ae+1}:=by rw[List.take_left];rfl
    rw[ee] at this;exact this
   ·exact zh.next (c:={cZ b with ae:=b.ae+1}) m4 (by show adP.wrap (b.ae+1-1)=b.ae;rw[aw (by omega)];omega)
  cases hd:df (o7 b asked t fate) with
  |none=>
   simp only[aey];apply ws;intros;refine cz (cz (cz (cz (cz (cz (cz (cz ?_)))))));rw[hd] at Co;simp only[Option.toList_none,aed] at Co;have fin:=λkA c1=>lR [] (b.ka asked t fate) _ (Ao r1 r3 r4::qV r6 r7::wj r5::vs) kA _ (hg.ka hf many hk) c1 (h _ ⟨[{cZ b with ae:=b.ae+1,kept:=b.kept++[o7 b asked t fate]},{cZ b with ae:=b.ae+1},cZ b],rfl,rfl,by simp⟩);rw[Co] at fin;simp only[dz,afn] at fin;exact fin _ (Ei _ (λx hx=>by simp[hx]) (by repeat (first|exact aeH.head _|apply aeH.tail)) (by repeat (first|exact aeH.head _|apply aeH.tail)) (by repeat (first|exact aeH.head _|apply aeH.tail)) (by repeat (first|exact aeH.head _|apply aeH.tail)) (by repeat (first|exact aeH.head _|apply aeH.tail)) (by repeat (first|exact aeH.head _|apply aeH.tail)))
  |some x=>
   have ex:Im (o7 b asked t fate)=x:=by
    unfold df at hd;split at hd
    ·cases hd;rfl
    ·cases hd
   simp only[aeq];apply ws;intros;simp only[dU,adW];rw[ex];refine Ew (p:=p) (e':=(cZ b).ends++[x]) (by have:=xf b;show(b.kept.filterMap df).length<_;omega) (aej.refl _) ?_;apply ws;intros;refine ry (p:=p) (by show(((vs.reverse++[_])++[_])++[_]).length<_;simp at JH⊢;omega) rfl rfl ?_;apply ws;intros;refine cz (cz (cz (cz (cz (cz (cz (cz ?_)))))));rw[hd] at Co;simp only[Option.toList_some] at Co;have hsx:=(nq hd).1;have NW:∀kA,(∀x∈bx,x∈kA)->(r1,[.p (some (ad p 0))])∈kA->(r3,ai t)∈kA->(r4,aJ (o7 b asked t fate))∈kA->(r5,[.p (some (ad p 0))])∈kA->(r6,[.p (some (ad lk 0))])∈kA->(r7,[.i (b.kept.length:Int)])∈kA->(r8,dG x)∈kA->
                                                       gh p la lk kA (Hp r1 r8::Ao r1 r3 r4::qV r6 r7::wj r5::vs) ({cZ b with ae:=b.ae+1,kept:=b.kept++[o7 b asked t fate],ef:=(sg (cZ b).ef.1 t.id (some (b.kept.length:Int)),(cZ b).ef.2+1),stamps:=(cZ b).stamps++[(b.ae+1,(b.kept.length:Int))]}::{cZ b with ae:=b.ae+1,kept:=b.kept++[o7 b asked t fate]}::{cZ b with ae:=b.ae+1}::cZ b::hs)
                                                        (cZ (b.ka asked t fate)):=by
    intro kA uU m1 m2 m3 m4 m5 m6 m7;refine⟨?_,Ei kA uU m1 m2 m3 m4 m5 m6⟩;rw[Co];exact zh.JB (p:=p) (la:=la) (lk:=lk) (c:={cZ b with ae:=b.ae+1,kept:=b.kept++[o7 b asked t fate],ef:=(sg (cZ b).ef.1 t.id (some (b.kept.length:Int)),(cZ b).ef.2+1),stamps:=(cZ b).stamps++[(b.ae+1,(b.kept.length:Int))],ends:=(cZ b).ends++[x]}) (e':=(cZ b).ends) m1 m7
     (by have:=xf b;show(b.kept.filterMap df++[x]).length<_;simp;omega) (ad1 (l₁:=[x])) (λy hy=>by
      obtain⟨k,hk,e⟩:=List.mem_filterMap.1 hy
      have h1:=(nq e).1
      have h2:=(hg.stamps k hk).2
      rw[hsx]
      show y.ae≠b.ae+1
      omega)
   have fin:=λkA c1=>lR [] (b.ka asked t fate) _ (Hp r1 r8::Ao r1 r3 r4::qV r6 r7::wj r5::vs) kA _ (hg.ka hf many hk) c1 (h _ ⟨[{cZ b with ae:=b.ae+1,kept:=b.kept++[o7 b asked t fate],ef:=(sg (cZ b).ef.1 t.id (some (b.kept.length:Int)),(cZ b).ef.2+1),stamps:=(cZ b).stamps++[(b.ae+1,(b.kept.length:Int))]},{cZ b with ae:=b.ae+1,kept:=b.kept++[o7 b asked t fate]},{cZ b with ae:=b.ae+1},cZ b],rfl,rfl,by simp⟩);rw[Co] at fin NW;simp only[dz,afn] at fin;exact fin _ (NW _ (λx hx=>by simp[hx]) (by repeat (first|exact aeH.head _|apply aeH.tail)) (by repeat (first|exact aeH.head _|apply aeH.tail)) (by repeat (first|exact aeH.head _|apply aeH.tail)) (by repeat (first|exact aeH.head _|apply aeH.tail)) (by repeat (first|exact aeH.head _|apply aeH.tail)) (by repeat (first|exact aeH.head _|apply aeH.tail)) (by repeat (first|exact aeH.head _|apply aeH.tail)))
 refine bE (λg=>?_) (λg=>?_)
 ·rw[g] at hw;apply ws;intros;rw[if_pos rfl] at hw;rw[hw] at main;exact main
 ·rw[g,if_neg (by decide)] at hw;rw[hw] at main;exact main
def N5(hg:Good b){n:Nat}(hn:n<b.kept.length)(h1:b.kept[n].fate=1)(zV:fate=2\/fate=3\/fate=4):cZ (b.fate b.kept[n].move.id fate)={cZ b with kept:=b.kept.set n {b.kept[n] with fate:=fate},ends:=(b.kept.set n {b.kept[n] with fate:=fate}).filterMap df}:=by
 have e:(b.fate b.kept[n].move.id fate).kept=b.kept.set n {b.kept[n] with fate:=fate}:=by
  show(b.kept.map λk=>if k.move.id=b.kept[n].move.id/\k.fate=1 then{k with fate:=fate} else k)=_;have:=map_set (key:=λx:Kept=>x.move.id) hg.names hn λk=>if k.fate=1 then{k with fate:=fate} else k
  rw[if_pos h1] at this;rw[<-this];apply ae9;intro k hk;by_cases e1:k.move.id=b.kept[n].move.id<;>by_cases e2:k.fate=1<;>simp[e1,e2]
 have e9:B1 (b.kept.set n {b.kept[n] with fate:=fate})=B1 b.kept:=JF (key:=λx:Kept=>x.move.id) hn rfl;unfold cZ;rw[e,e9,DL (k:={b.kept[n] with fate:=fate}) 0 hn rfl]
 rfl
def Good.Yd(hg:Good b){n:Nat}(hn:n<b.kept.length)(h1:b.kept[n].fate=1)(zV:fate=2\/fate=3\/fate=4):Good (b.fate b.kept[n].move.id fate):=by
 have e:(b.fate b.kept[n].move.id fate).kept=b.kept.set n {b.kept[n] with fate:=fate}:=congrArg C.kept (N5 hg hn h1 zV);have em:∀{β:Type}(g:Kept->β),(∀k:Kept,g {k with fate:=fate}=g k)->(b.fate b.kept[n].move.id fate).kept.map g=b.kept.map g:=by
  intro β g hgg;rw[e,List.map_set];refine List.ext_getElem (by simp) λi h1 h2=>?_;rw[List.getElem_set];split
  ·rename_i he;subst he;simp[hgg]
  ·rfl
 have hk:=hg.L1 _ (aeg hn);refine⟨hg.ids,by rw[em (λx=>x.move.id) λ_=>rfl];exact hg.names,hg.lH,by rw[e,aeX];exact hg.many,hg.Mj,?_,?_,?_,hg.clock,by rw[e,aeX];exact hg.ae⟩
 ·rw[e];intro x hx;rcases aeI hx with hx|hx
  ·exact hg.L1 x hx
  ·subst hx;exact⟨hk.asked,hk.move,hk.IE,hk.Jr,hk.qw,hk.rI,by show 0<=fate/\fate<=4;omega,hk.timeout,hk.born⟩
 ·have h2:=hg.rising;have:((b.fate b.kept[n].move.id fate).kept.map λx=>x.move.ae).Pairwise (·<·):=by
   rw[em (λx=>x.move.ae) λ_=>rfl];exact List.pairwise_map.2 h2
  exact List.pairwise_map.1 this
 ·rw[e];intro x hx;rcases aeI hx with hx|hx
  ·exact hg.stamps x hx
  ·subst hx;exact hg.stamps b.kept[n] (aeg hn)
def TL[i:Lc (bh p) L (b,hs) f](hn:b.named id=some k)(h1:k.fate=1)(zV:fate=2\/fate=3\/fate=4)(hl:hs.length<900000)
 (h:∀cU,Ext (cZ b) hs (cZ (b.fate id fate)) cU 2->T W (f (b.fate id fate,cU)) (K (.i 0))):T W L (bA (some ⟨p,0,none⟩) (nm id) fate K):=by
 refine G8 (p:=p) λla lk ti tn vs bx R hg hc lR=>?_;have lH:=hg.lH;have many:=hg.many;obtain⟨n,hi⟩:∃n,(b.kept.findIdx? λx=>x.move.id=id)=some n:=by
  cases hi:(b.kept.findIdx? λx=>x.move.id=id) with
  |none=>rw[show b.named id=none from wU (key:=λx:Kept=>x.move.id) hi] at hn;cases hn
  |some n=>exact⟨n,rfl⟩
 obtain⟨Uv,hk,Wf⟩:=rM (key:=λx:Kept=>x.move.id) hi;have e2:b.named id=some b.kept[n]:=Wf;rw[hn] at e2;have e3:=aec.inj e2;subst e3;subst hk;have e1:(B1 b.kept).1 b.kept[n].move.id=some (n:Int):=by show afv _ _=_;rw[hi];rfl
 have Co:=N5 hg Uv h1 zV;have XH:=hg.L1 _ (aeg Uv);have JH:vs.reverse.length<900000:=by rw[aeO,hc.len];omega
 have F':df {b.kept[n] with fate:=fate}=none:=by unfold df;rw[if_neg];show ¬(fate=1/\_);omega
 unfold bA;apply ws;intros;refine EL (b:=b) hg.many ?_;rw[hn];simp only[aeq,aeu];apply ws;intros;rename_i r1 r2 r3;unfold bA.j1;refine dV (by simpa using h1) ?_;unfold bA.j2;refine dV (by simp;omega) ?_;refine dV (by simp;omega) ?_;apply ws;intros;refine Of (k:=b.kept[n]) XH ?_;apply ws;intros;rename_i r4;have main:∀(q:Core)(tB:LV)(fh:List C)(c2:C),q=dz la lk ti tn tB c2->c2={cZ b with ends:=q.ends}->q.ends.Perm ((b.kept.set n {b.kept[n] with fate:=fate}).filterMap df)->tB.length<=vs.length+1->
                                                          (∀kA,(∀x∈bx,x∈kA)->(r1,[.p (some (ad p 0))])∈kA->(r4,dG (Im b.kept[n]))∈kA->gh p la lk kA tB fh {cZ b with ends:=(b.kept.set n {b.kept[n] with fate:=fate}).filterMap df})->
                                                          Ext (cZ b) hs (cZ (b.fate b.kept[n].move.id fate)) ({cZ b with ends:=(b.kept.set n {b.kept[n] with fate:=fate}).filterMap df}::fh) 2->
                                                          T W (Sep.pt r4 (dG (Im b.kept[n]))::Sep.pt r3 (aJ b.kept[n])::Sep.pt r2 (nm b.kept[n].move.id)::Sep.pt r1 [.p (some (ad p 0))]::dL p q::nY ak 14 la (p,b.ag)::nY aJ 33 lk (p,b.kept)::kY ti (D9 b.ag)::kY tn (B1 b.kept)::rr bx::R) (bA.j4 K r1 r2 r3 fate):=by
  rintro q tB fh c2 rfl Me hpm aap Ei aaK;unfold bA.j4;have SF:(dz la lk ti tn tB c2).vs.length<1000000:=by show tB.reverse.length<_;rw[aeO];rw[aeO] at JH;omega
  apply ws;intros;refine zg (t:=tn) (x:=B1 b.kept) ?_;rw[e1];simp only[aeq,aeu];apply ws;intros;refine VF (l:=lk) (y:=b.kept[n]) (x:={b.kept[n] with fate:=fate}) (adS Uv) (by omega) SF λr5 r6 r7=>?_;apply ws;intros;refine cz (cz (cz (cz (cz (cz (cz ?_))))));refine T.Ip (e':=(b.kept.set n {b.kept[n] with fate:=fate}).filterMap df) hpm ?_;have fin:=λkA(c1:gh p la lk kA (xk r5 r6 r7::tB) ({cZ b with ends:=(b.kept.set n {b.kept[n] with fate:=fate}).filterMap df}::fh) (cZ (b.fate b.kept[n].move.id fate)))=>lR [] (b.fate b.kept[n].move.id fate) _ (xk r5 r6 r7::tB) kA _ (hg.Yd Uv h1 zV) c1 (h _ aaK);have NW:∀kA,(∀x∈bx,x∈kA)->(r1,[.p (some (ad p 0))])∈kA->(r4,dG (Im b.kept[n]))∈kA->(r5,aJ b.kept[n])∈kA->(r6,[.p (some (ad lk 0))])∈kA->(r7,[.i (n:Int)])∈kA->
                                                         gh p la lk kA (xk r5 r6 r7::tB) ({cZ b with ends:=(b.kept.set n {b.kept[n] with fate:=fate}).filterMap df}::fh) (cZ (b.fate b.kept[n].move.id fate)):=by
   intro kA uU m1 m2 m3 m4 m5;refine⟨?_,Ei kA uU m1 m2⟩;have:=zh.P5 (p:=p) (la:=la) (lk:=lk) (c:=cZ (b.fate b.kept[n].move.id fate)) m3 m4 m5 (by rw[Co];simpa using Uv);have ee:{cZ (b.fate b.kept[n].move.id fate) with kept:=(cZ (b.fate b.kept[n].move.id fate)).kept.set n b.kept[n]}={cZ b with ends:=(b.kept.set n {b.kept[n] with fate:=fate}).filterMap df}:=by
    rw[Co];simp only[ae6,List.set_getElem_self]
    rfl
   rw[ee] at this;exact this
  rw[Co] at fin NW;simp only[dz,afn] at fin;rw[Me];exact fin _ (NW _ (λx hx=>by simp[hx]) (by repeat (first|exact aeH.head _|apply aeH.tail)) (by repeat (first|exact aeH.head _|apply aeH.tail)) (by repeat (first|exact aeH.head _|apply aeH.tail)) (by repeat (first|exact aeH.head _|apply aeH.tail)) (by repeat (first|exact aeH.head _|apply aeH.tail)))
 cases hd:df b.kept[n] with
 |none=>
  simp only[aey];apply ws;intros;unfold bA.j3;refine po ?_;have hes:=Cs Uv F' hd;have NX:({cZ b with ends:=(b.kept.set n {b.kept[n] with fate:=fate}).filterMap df}:C)=cZ b:=by rw[hes];rfl
  refine main (dz la lk ti tn vs (cZ b)) vs hs (cZ b) rfl rfl (by rw[hes];exact aej.refl _) (by omega) (λkA uU _ _=>by rw[NX];exact hc.mono uU) (by rw[NX];exact⟨[cZ b],rfl,rfl,by simp⟩)
 |some x=>
  have ex:Im b.kept[n]=x:=by
   unfold df at hd;split at hd
   ·cases hd;rfl
   ·cases hd
  obtain⟨Ur,F9⟩:=hg.N8 Uv F' hd;simp only[aeq];apply ws;intros;simp only[dU,adW];have hsx:b.kept[n].move.ae=x.ae:=(nq hd).1.symm;refine GD (p:=p) (q:=dz la lk ti tn vs (cZ b)) (by have:=xf b;show(b.kept.filterMap df).length<_;omega) (λy e' hy hpy=>?_) (λEd=>?_)
  ·apply ws;intros;unfold bA.j3;refine vr ?_;apply ws;intros;refine ry (p:=p) (by show vs.reverse.length<_;omega) rfl rfl ?_;apply ws;intros;have hpe:e'.Perm ((b.kept.set n {b.kept[n] with fate:=fate}).filterMap df):=Cy Ur hpy (by rw[hy,<-ex]) F9;have:=main ⟨la,lk,ti,tn,vs.reverse++[Tq r1 r4],(cZ b).stamps,e',(cZ b).clock,(cZ b).ae⟩ (Tq r1 r4::vs) (cZ b::hs) {cZ b with ends:=e'} (by simp[dz]) rfl hpe (by simp) (λkA uU m1 m2=>⟨?_,hc.mono uU⟩) ⟨[{cZ b with ends:=(b.kept.set n {b.kept[n] with fate:=fate}).filterMap df},cZ b],rfl,rfl,by simp⟩
   ·exact this
   ·rw[ex] at m2;exact zh.end_ (p:=p) (la:=la) (lk:=lk) (c:={cZ b with ends:=(b.kept.set n {b.kept[n] with fate:=fate}).filterMap df}) (e':=(cZ b).ends) m1 m2 (by have h3:=List.length_filterMap_le df (b.kept.set n {b.kept[n] with fate:=fate});rw[aeX] at h3;show List.length (List.filterMap _ _)<_;omega) (Ur.symm.trans (ad1 (l₁:=[x])))
  ·refine absurd ?_ (Ed x (Ur.mem_iff.1 (by simp)));rw[<-ex]
end
def fW(d c:aP):LV:=ak d++ak c
def xG(d c:aP):∀v∈fW d c,v.oneCell'=true:=kT (eV _) (eV _)
instance{d c:aP}:Ln (fW d c) 28:=⟨rfl⟩
instance{d c:aP}:Gt (fW d c) 12 (.i d.flags):=⟨rfl⟩
instance{d c:aP}:Gt (fW d c) 26 (.i c.flags):=⟨rfl⟩
section
variable {d c e:aP} {i:Int} {x1 x2 x3 x4 x5 x6 x7 x8 x9 zF zE zD zC Cw G7 G6 PG PF Tm Tl Tk Tj Ti Th Tg Tf Te Td:Value}
instance:Sub (fW d c) 0 28 (fW d c):=⟨rfl,λj v h=>by rw[adW];exact h⟩
instance:Sub (fW d c) 0 14 (ak d):=⟨rfl,λj v h=>by rw[adW];unfold fW;rw[aef (adU.1 h).1];exact h⟩
instance:Sub (fW d c) 14 14 (ak c):=⟨rfl,λj v h=>by
 have hl:(ak d).length=14:=rfl
 unfold fW
 rw[aes (by omega),hl,show 14+j-14=j by omega];exact h⟩
instance:Wr (fW d c) 0 (ak e) (fW e c):=⟨rfl,by show 14<=28;decide,eV e⟩
instance:Wr (fW d c) 14 (ak e) (fW d e):=⟨rfl,by show 28<=28;decide,eV e⟩
instance:Wr (fW d c) 12 [.i i] (fW {d with flags:=i} c):=⟨rfl,by show 13<=28;decide,λv h=>by simp at h;subst h;rfl⟩
instance:Wr (fW d c) 26 [.i i] (fW d {c with flags:=i}):=⟨rfl,by show 27<=28;decide,λv h=>by simp at h;subst h;rfl⟩
instance:Wr [x1,x2,x3,x4,x5,x6,x7,x8,x9,zF,zE,zD,zC,Cw,G7,G6,PG,PF,Tm,Tl,Tk,Tj,Ti,Th,Tg,Tf,Te,Td] 0 (fW d c) (fW d c):=⟨rfl,adY _,xG d c⟩
instance:Wr [x1,x2,x3,x4,x5,x6,x7,x8,x9,zF,zE,zD,zC,Cw,G7,G6,PG,PF,Tm,Tl,Tk,Tj,Ti,Th,Tg,Tf,Te,Td] 0 (ak d++(ak c++[])) (fW d c):=⟨rfl,adY _,by rw[aed];exact xG d c⟩
instance:Wr [x1,x2,x3,x4,x5,x6,x7,x8,x9,zF,zE,zD,zC,Cw,G7,G6,PG,PF,Tm,Tl,Tk,Tj,Ti,Th,Tg,Tf,Te,Td] 0 [.u 0,.u 0,.u 0,.u 0,.u 0,.u 0,.u 0,.u 0,.u 0,.u 0,.i 0,.i 0,.i 0,.i 0,.u 0,.u 0,.u 0,.u 0,.u 0,.u 0,.u 0,.u 0,.u 0,.u 0,.i 0,.i 0,.i 0,.i 0] (fW zA zA):=⟨rfl,adY _,xG zA zA⟩
end
def pA(d c:Option aP)(t:Move):Int:=match d with
 |none=>19
 |some d=>match c with
  |none=>20
  |some c=>if d.aG≠c.aG then 21 else if d.aG≠t.aG then 22 else if 8<=d.flags then 30 else if 8<=c.flags then 31 else 0
def Q7{f:Int}(h0:0<=f)(h1:f<16):(bB .i64 .and f 8!=0)=decide (8<=f):=by
 rw[aee];simp only[bne_iff_ne,ne_eq,decide_eq_true_eq];rw[OB h0 (by omega)];unfold has;omega
section
variable {W:World} {L R:LH} {K:VK} {X:WK} {p:Nat} {b:ax} {hs:List C} {f:ax×List C->LH} {t:Move} {d c:aP} {n:Nat}
def QF[i:Lc (bh p) L (b,hs) f](h0:∀d c,pA (b.find t.aF) (b.find t.ar) t≠0->T W L (K (.tuple ⟨[.agg ⟨fW d c⟩,.i (pA (b.find t.aF) (b.find t.ar) t)]⟩)))
 (h:∀d c,b.find t.aF=some d->b.find t.ar=some c->pA (b.find t.aF) (b.find t.ar) t=0->T W L (K (.tuple ⟨[.agg ⟨fW d c⟩,.i 0]⟩))):T W L (uB (some ⟨p,0,none⟩) (ai t) K):=by
 refine mT (p:=p) λhg=>?_;unfold uB
 repeat' first|apply ws;intros|apply wb|with_reducible refine sf ?_|fail
 cases hd:b.find t.aF with
 |none=>
  rw[hd] at h0;simp only[aey,aeK];have:=h0 zA zA (by show(19:Int)≠0;decide);apply ws;intros;exact T.dp this
 |some d=>
  cases hc:b.find t.ar with
  |none=>
   rw[hd,hc] at h0;simp only[aey,aeK,aeq,aeu];have:=h0 zA zA (by show(20:Int)≠0;decide);apply ws;intros;exact T.dp this
  |some c=>
   rw[hd,hc] at h0 h;have fd:=(hg.Mj d (aeQ hd)).flags;have fc:=(hg.Mj c (aeQ hc)).flags;simp only[aeq,aeu];apply ws;intros;refine bE (λg1=>?_) (λg1=>?_)
   ·have g1:d.aG≠c.aG:=by simpa using g1
    have e:pA (some d) (some c) t=21:=if_pos g1;rw[e] at h0;have:=h0 zA zA (by decide);apply ws;intros;exact T.dp this
   have g1: ¬d.aG≠c.aG:=by simpa using g1
   apply ws;intros;refine bE (λg2=>?_) (λg2=>?_)
   ·have g2:d.aG≠t.aG:=by simpa using g2
    have e:pA (some d) (some c) t=22:=by unfold pA;dsimp only;rw[if_neg g1,if_pos g2]
    rw[e] at h0;have:=h0 zA zA (by decide);apply ws;intros;exact T.dp this
   have g2: ¬d.aG≠t.aG:=by simpa using g2
   apply ws;intros;rw[Q7 fd.1 fd.2];refine dP (λg3=>?_) (λg3=>?_)
   ·have e:pA (some d) (some c) t=30:=by unfold pA;dsimp only;rw[if_neg g1,if_neg g2,if_pos (g3)]
    rw[e] at h0;have:=h0 zA zA (by decide);apply ws;intros;exact T.dp this
   apply ws;intros;rw[Q7 fc.1 fc.2];refine dP (λg4=>?_) (λg4=>?_)
   ·have e:pA (some d) (some c) t=31:=by unfold pA;dsimp only;rw[if_neg g1,if_neg g2,if_neg g3,if_pos (g4)]
    rw[e] at h0;have:=h0 zA zA (by decide);apply ws;intros;exact T.dp this
   have:=h d c rfl rfl (by unfold pA;dsimp only;rw[if_neg g1,if_neg g2,if_neg g3,if_neg g4]);apply ws;intros;exact T.dp this
def X3{f:Int}(h0:0<=f)(h1:f<256):(bB .i64 .and f 16!=0)=decide (has f 16):=by
 rw[aee];simp only[bne_iff_ne,ne_eq,decide_eq_true_eq];rw[Vr h0 h1,ad6]
def X2{f:Int}(h0:0<=f)(h1:f<256):(bB .i64 .and f 32!=0)=decide (has f 32):=by
 rw[aee];simp only[bne_iff_ne,ne_eq,decide_eq_true_eq];rw[Vq h0 h1,ad6]
def SU{f:Int}(h0:0<=f)(h1:f<256):(bB .i64 .and f 64!=0)=decide (has f 64):=by
 rw[aee];simp only[bne_iff_ne,ne_eq,decide_eq_true_eq];rw[OC h0 h1,ad6]
def NZ{f:Int}(h0:0<=f)(h1:f<256):(bB .i64 .and f 128!=0)=decide (has f 128):=by
 rw[aee];simp only[bne_iff_ne,ne_eq,decide_eq_true_eq];rw[J1 h0 h1,ad6]
def aaZ{f:Int}(h0:0<=f)(h1:f<256):(bB .i64 .and f 4!=0)=decide (has f 4):=by
 rw[aee];simp only[bne_iff_ne,ne_eq,decide_eq_true_eq];rw[GQ h0 h1,ad6]
def KV(G:pn W)(hd:vf d)(hc:vf c)(ht:t.aB<aK)(hf:0<=t.flags/\t.flags<256)(hz:t.aB=0->has t.flags 16\/has t.flags 32)
 (h:T W L (K (.tuple ⟨[.agg ⟨nm (bI t d c).1⟩,.i (bI t d c).2]⟩))):T W L (dm (fW d c) (ai t) K):=by
 unfold dm;have j3:∀(r1 r2 r3 r4 n1:Nat),n1<aK->((if has t.flags 32/\(if has t.flags 32 then min n1 (gg c false) else n1)=0 then((0:Nat),(34:Int)) else(if has t.flags 32 then min n1 (gg c false) else n1,0))=bI t d c)->
  T W (Sep.pt r4 (nm n1)::Sep.pt r3 (nm 0)::Sep.pt r2 (ai t)::Sep.pt r1 (fW d c)::L) (dm.j3 K r2 r4 r1 r3):=by
  intro r1 r2 r3 r4 n1 hn1 he;unfold dm.j3;apply ws;intros;rw[X2 hf.1 hf.2];refine dP (λg1=>?_) (λg1=>?_)
  ·rw[if_pos g1] at he
   repeat' first|apply ws;intros|apply wb|with_reducible first|refine EO G hc ?_|refine Tc ?_|refine qy ?_|fail
   refine dP (λg2=>?_) (λg2=>?_)
   ·rw[if_pos ⟨g1,g2⟩] at he;rw[<-he] at h;rw[g2];apply ws;intros;exact T.dp h
   ·rw[if_neg (λhh=>g2 hh.2)] at he;rw[<-he] at h;apply ws;intros;exact T.dp h
  ·rw[if_neg (λhh=>g1 hh.1),if_neg g1] at he;rw[<-he] at h;apply ws;intros;exact T.dp h
 have j2:∀(r1 r2 r3 r4:Nat),T W (Sep.pt r4 (nm (if t.aB=0 then aK-1 else t.aB))::Sep.pt r3 (nm 0)::Sep.pt r2 (ai t)::Sep.pt r1 (fW d c)::L) (dm.j2 K r2 r4 r1 r3):=by
  intro r1 r2 r3 r4;have hn0:(if t.aB=0 then aK-1 else t.aB)<aK:=by unfold aK at *;split<;>omega
  unfold dm.j2;apply ws;intros;rw[X3 hf.1 hf.2];refine dP (λg1=>?_) (λg1=>?_)
  ·repeat' first|apply ws;intros|apply wb|with_reducible first|refine EO G hd ?_|refine Tc ?_|refine qy ?_|fail
   refine dP (λg2=>?_) (λg2=>?_)
   ·have he:bI t d c=(0,33):=by unfold bI;simp only[g1,g2,if_true,true_and]
    rw[he] at h;rw[g2];apply ws;intros;exact T.dp h
   ·refine j3 _ _ _ _ _ (by have:=Bn (p:=true) hd;omega) ?_;unfold bI;simp only[g1,g2,if_true,true_and,if_false]
  ·refine j3 _ _ _ _ _ hn0 ?_;unfold bI;simp only[g1,if_false,false_and]
 have adM:(has t.flags 16\/has t.flags 32)->t.aB=0->(if t.aB=0 then aK-1 else t.aB)=aK-1:=λ_ h=>if_pos h
 repeat' first|apply ws;intros|apply wb|with_reducible refine BY hf ?_|fail
 rename_i r1 r2 r3 r4;refine dP (λg1=>?_) (λg1=>?_)
 ·repeat' first|apply ws;intros|apply wb|with_reducible refine qy ?_|fail
  unfold dm.j1;refine dP (λg2=>?_) (λg2=>?_)
  ·refine IZ ⟨tQ _,G.QC⟩ ?_;apply ws;intros;have:=j2 r1 r2 r3 r4;rw[if_pos g2] at this;exact this
  ·have:=j2 r1 r2 r3 r4;rw[if_neg g2] at this;exact this
 ·unfold dm.j1;refine po ?_;have:=j2 r1 r2 r3 r4;rw[if_neg (λhh=>g1 (hz hh))] at this;exact this
end
structure ade(t:Move):Prop where
 flags:0<=t.flags/\t.flags<=255
 id0:t.id≠0
 idM:t.id≠aK-1
 tog:ft t.flags
 fresh:t.ae=0/\t.born=0
 timeout:0<=t.timeout/\t.timeout<=1073741824
 waits:0<t.timeout->has t.flags 2
 ends:gv t.flags->t.pending≠0/\(0<=t.aG/\t.aG<4294967296)/\(0<=t.code/\t.code<65536)
 aT: ¬gv t.flags->t.aF≠t.ar/\t.pending=0/\(t.aB=0->has t.flags 16\/has t.flags 32)/\(1<=t.aG/\t.aG<4294967296)/\(1<=t.code/\t.code<65536)
def ym{t:Move}(h:kz t=0):ade t:=by
 unfold kz at h;by_cases h1:t.flags<0\/255<t.flags
 ·rw[if_pos h1] at h;exact absurd h (by decide)
 rw[if_neg h1] at h;by_cases h2:t.id=0
 ·rw[if_pos h2] at h;exact absurd h (by decide)
 rw[if_neg h2] at h;by_cases h3:t.id=aK-1
 ·rw[if_pos h3] at h;exact absurd h (by decide)
 rw[if_neg h3] at h;by_cases h4: ¬ft t.flags
 ·rw[if_pos h4] at h;exact absurd h (by decide)
 rw[if_neg h4] at h;by_cases h5:t.ae≠0\/t.born≠0
 ·rw[if_pos h5] at h;exact absurd h (by decide)
 rw[if_neg h5] at h;by_cases h6:t.timeout<0\/1073741824<t.timeout\/0<t.timeout/\ ¬has t.flags 2
 ·rw[if_pos h6] at h;exact absurd h (by decide)
 rw[if_neg h6] at h;have hw:0<t.timeout->has t.flags 2:=λh0=>ad6.1 λhh=>h6 (.inr (.inr ⟨h0,hh⟩));by_cases he:gv t.flags
 ·rw[if_pos he] at h;by_cases g1:t.pending=0
  ·rw[if_pos g1] at h;exact absurd h (by decide)
  rw[if_neg g1] at h;by_cases g2:t.aG<0\/4294967296<=t.aG
  ·rw[if_pos g2] at h;exact absurd h (by decide)
  rw[if_neg g2] at h;by_cases g3:t.code<0\/65536<=t.code
  ·rw[if_pos g3] at h;exact absurd h (by decide)
  exact⟨by omega,h2,h3,ad6.1 h4,by omega,by omega,hw,λ_=>⟨g1,by omega,by omega⟩,λhh=>absurd he hh⟩
 ·rw[if_neg he] at h;by_cases g1:t.aF=0
  ·rw[if_pos g1] at h;exact absurd h (by decide)
  rw[if_neg g1] at h;by_cases g2:t.ar=0
  ·rw[if_pos g2] at h;exact absurd h (by decide)
  rw[if_neg g2] at h;by_cases g3:t.aF=t.ar
  ·rw[if_pos g3] at h;exact absurd h (by decide)
  rw[if_neg g3] at h;by_cases g4:t.pending≠0
  ·rw[if_pos g4] at h;exact absurd h (by decide)
  rw[if_neg g4] at h;by_cases g5:t.aB=0/\ ¬has t.flags 16/\ ¬has t.flags 32
  ·rw[if_pos g5] at h;exact absurd h (by decide)
  rw[if_neg g5] at h;by_cases g6:t.aG<1\/4294967296<=t.aG
  ·rw[if_pos g6] at h;exact absurd h (by decide)
  rw[if_neg g6] at h;by_cases g7:t.code<1\/65536<=t.code
  ·rw[if_pos g7] at h;exact absurd h (by decide)
  refine⟨by omega,h2,h3,ad6.1 h4,by omega,by omega,hw,λhh=>absurd hh he,λ_=>⟨g3,by omega,λh0=>?_,by omega,by omega⟩⟩;by_cases q:has t.flags 16
  ·exact .inl q
  ·by_cases q2:has t.flags 32
   ·exact .inr q2
   ·exact absurd ⟨h0,q,q2⟩ g5
section
variable {b:ax} {t:Move} {d c:aP} {n:Nat} {q:Bool}
def rS(hg:Good b){id:Nat}(hd:b.find id=some d):AG d/\d.id=id:=⟨hg.Mj d (aeQ hd),by simpa using List.find?_some hd⟩
def Js{s:Bool}(hd:AG d)(hm:(more d s n q).2=0):AG (more d s n q).1/\(more d s n q).1.id=d.id/\(more d s n q).1.ae=d.ae:=by
 obtain⟨⟨i1,i2,i3,i4,i5,i6,i7,i8,i9⟩,i10,i11,i12⟩:=hd;unfold more at hm⊢;cases s with
 |false=>
  simp only[aeh,if_false] at hm⊢;by_cases h1:aK<=d.cp+d.cq+n
  ·rw[if_pos h1] at hm;exact absurd hm (by show ¬(32:Int)=0;decide)
  by_cases h2:has d.flags 4/\gg d false<n
  ·rw[if_neg h1,if_pos h2] at hm;exact absurd hm (by show ¬(34:Int)=0;decide)
  rw[if_neg h1,if_neg h2];cases q with
  |true=>exact⟨⟨⟨i1,i2,i3,by show d.cp+n<aK;omega,i5,i6,i7,i8,i9⟩,i10,i11,i12⟩,rfl,rfl⟩
  |false=>exact⟨⟨⟨i1,i2,i3,i4,by show d.cq+n<aK;omega,i6,i7,i8,i9⟩,i10,i11,i12⟩,rfl,rfl⟩
 |true=>
  simp only[if_true] at hm⊢;by_cases h1:aK<=d.dp+d.dq+n
  ·rw[if_pos h1] at hm;exact absurd hm (by show ¬(32:Int)=0;decide)
  by_cases h2:has d.flags 2/\gg d true<n
  ·rw[if_neg h1,if_pos h2] at hm;exact absurd hm (by show ¬(33:Int)=0;decide)
  rw[if_neg h1,if_neg h2];cases q with
  |true=>exact⟨⟨⟨i1,by show d.dp+n<aK;omega,i3,i4,i5,i6,i7,i8,i9⟩,i10,i11,i12⟩,rfl,rfl⟩
  |false=>exact⟨⟨⟨i1,i2,by show d.dq+n<aK;omega,i4,i5,i6,i7,i8,i9⟩,i10,i11,i12⟩,rfl,rfl⟩
def GF(hd:AG d){yes:Prop}[Decidable yes]:AG (close d yes)/\(close d yes).id=d.id/\(close d yes).ae=d.ae:=by
 obtain⟨⟨i1,i2,i3,i4,i5,i6,i7,i8,i9⟩,i10,i11,i12⟩:=hd;unfold close;split
 ·have hf:0<=d.flags%8+8/\d.flags%8+8<16:=by omega
  exact⟨⟨⟨i1,i2,i3,i4,i5,i6,i7,by show q6 (d.flags%8+8);unfold q6;omega,i9⟩,⟨i10.1,i10.2.1,by show 0<=d.flags%8+8/\d.flags%8+8<=65535;omega⟩,hf,i12⟩,rfl,rfl⟩
 ·exact⟨⟨⟨i1,i2,i3,i4,i5,i6,i7,i8,i9⟩,i10,i11,i12⟩,rfl,rfl⟩
def Cz{a x:aP}{id:Nat}(hx:b.find id=some x)(gU:a.id≠id):(b.aD a).find id=some x:=by
 unfold ax.find at *;show(b.ag.map λx=>if x.id=a.id then{a with ae:=x.ae} else x).find? _=_;rw[List.find?_map];have:((λy:aP=>decide (y.id=id))∘λx=>if x.id=a.id then{a with ae:=x.ae} else x)=λy:aP=>decide (y.id=id):=by
  funext y
  simp only[Function.comp];by_cases e:y.id=a.id<;>simp[e]
 rw[this,hx];have hxi:x.id=id:=by simpa using List.find?_some hx
 simp only[aeD];rw[if_neg (by rw[hxi];exact λh=>gU h.symm)]
def qY(hg:Good b){id:Nat}{k:Kept}(hk:b.named id=some k):KG k/\k.move.id=id:=⟨hg.L1 k (aeQ hk),by simpa using List.find?_some hk⟩
end
section
variable {W:World} {L R:LH} {K:VK} {X:WK} {p:Nat} {b:ax} {hs:List C} {f:ax×List C->LH} {t:Move} {d c:aP} {n:Nat}
def KU(h1:kz t=0)(h2: ¬gv t.flags)(h3:b.named t.id=none)(h4:b.find t.aF=some d)(h5:b.find t.ar=some c)(h6:pA (some d) (some c) t=0):
 gM t (b.named t.id) (b.find t.aF) (b.find t.ar) b.kept.length=(if 96<=b.kept.length then(35,0)
  else if(bI t d c).2≠0 then((bI t d c).2,0)
  else if(more d true (bI t d c).1 (decide (has t.flags 2))).2≠0 then((more d true (bI t d c).1 (decide (has t.flags 2))).2,0)
  else if(more c false (bI t d c).1 (decide (has t.flags 2))).2≠0 then((more c false (bI t d c).1 (decide (has t.flags 2))).2,0)
  else(0,(bI t d c).1)):=by
 unfold pA at h6;dsimp only at h6;unfold gM;rw[if_neg (by simpa using h1),if_neg h2,h3,h4,h5];dsimp only;by_cases g1:d.aG≠c.aG
 ·rw[if_pos g1] at h6;cases h6
 by_cases g2:d.aG≠t.aG
 ·rw[if_neg g1,if_pos g2] at h6;cases h6
 by_cases g3:8<=d.flags
 ·rw[if_neg g1,if_neg g2,if_pos g3] at h6;cases h6
 by_cases g4:8<=c.flags
 ·rw[if_neg g1,if_neg g2,if_neg g3,if_pos g4] at h6;cases h6
 rw[if_neg g1,if_neg g2,if_neg g3,if_neg g4]
def Sw(G:pn W)(ht:uX t)(NH:jT t)(hl:hs.length<800000)[i:Lc (bh p) L (b,hs) f]
 (h:∀cU,Ext (cZ b) hs (cZ (b.move t).2) cU 6->T W (f ((b.move t).2,cU)) (K (.i (b.move t).1))):T W L (lN (some ⟨p,0,none⟩) (ai t) K):=by
 have hL:f (b,hs)=L:=i.same;refine mT (p:=p) λhg=>?_;have bad:∀r:Int,r≠0->(gM t (b.named t.id) (b.find t.aF) (b.find t.ar) b.kept.length).1=r->T W L (K (.i r)):=by
  intro r hr he;have e:b.move t=(r,b):=by unfold ax.move;dsimp only;rw[he,if_pos hr]
  rw[e] at h;have:=h hs (Ext.refl _ _ _);rw[hL] at this;exact this
 unfold lN
 repeat' first|apply ws;intros|apply wb|with_reducible refine Ff G ht ?_|fail
 refine bE (λg1=>?_) (λg1=>?_)
 ·have g1:kz t≠0:=by simpa using g1
  have:=bad (kz t) g1 (by unfold gM;rw[if_pos g1]);exact T.dp this
 have g1:kz t=0:=by simpa using g1
 have ck:=ym g1;have hf:0<=t.flags/\t.flags<256:=by have:=ck.flags;omega
 repeat' first|apply ws;intros|apply wb|with_reducible refine ER hf ?_|fail
 refine dP (λg2=>?_) (λg2=>?_)
 ·have:=bad 6 (by decide) (by unfold gM;rw[if_neg (by simpa using g1),if_pos g2]);exact T.dp this
 repeat' first|apply ws;intros|apply wb|with_reducible refine EK ?_|fail
 cases hn:b.named t.id with
 |some k=>
  obtain⟨hk,_⟩:=qY hg hn;simp only[aeq,aeu]
  repeat' first|apply ws;intros|apply wb|with_reducible refine Fg hf hk.qw ?_|fail
  have:=bad (qx t k.asked) (oD _ _) (by unfold gM;rw[if_neg (by simpa using g1),if_neg g2,hn]);exact T.dp this
 |none=>
 simp only[aey,aeK];have key:∀(d c:Option aP),b.find t.aF=d->b.find t.ar=c->pA d c t≠0->(gM t (b.named t.id) (b.find t.aF) (b.find t.ar) b.kept.length).1=pA d c t:=by
  intro d c hd hc gU;rw[hd,hc,hn];unfold gM;rw[if_neg (by simpa using g1),if_neg g2];dsimp only;cases d with
  |none=>rfl
  |some d=>
   cases c with
   |none=>rfl
   |some c=>
    unfold pA at gU⊢;dsimp only at gU⊢;by_cases g1:d.aG≠c.aG
    ·rw[if_pos g1,if_pos g1]
    by_cases g2:d.aG≠t.aG
    ·rw[if_neg g1,if_pos g2,if_neg g1,if_pos g2]
    by_cases g3:8<=d.flags
    ·rw[if_neg g1,if_neg g2,if_pos g3,if_neg g1,if_neg g2,if_pos g3]
    by_cases g4:8<=c.flags
    ·rw[if_neg g1,if_neg g2,if_neg g3,if_pos g4,if_neg g1,if_neg g2,if_neg g3,if_pos g4]
    rw[if_neg g1,if_neg g2,if_neg g3,if_neg g4] at gU;exact absurd rfl gU
 apply ws;intros;refine QF (λd c gU=>?_) (λd c hd hc he=>?_)
 ·apply ws;intros;refine kq (by simpa using gU) ?_;have:=bad _ gU (key _ _ rfl rfl gU);exact T.dp this
 apply ws;intros;obtain⟨gd,EV⟩:=rS hg hd;obtain⟨gc,Eh⟩:=rS hg hc;rw[hd,hc] at he;have JQ:=KU (b:=b) g1 g2 hn hd hc he;refine dV (by simp) ?_
 repeat' first|apply ws;intros|apply wb|with_reducible refine OT ?_|fail
 by_cases g3:96<=b.kept.length
 ·rw[decide_eq_false (by omega)];apply ws;intros;have:=bad 35 (by decide) (by rw[JQ,if_pos g3]);exact T.dp this
 rw[decide_eq_true (by omega)];rw[if_neg g3] at JQ;obtain⟨gU,adg,Q',adC,SP⟩:=ck.aT g2
 repeat' first|apply ws;intros|apply wb|with_reducible refine KV G gd.ok gc.ok ht.aB hf Q' ?_|fail
 refine bE (λg4=>?_) (λg4=>?_)
 ·have g4:(bI t d c).2≠0:=by simpa using g4
  have:=bad _ g4 (by rw[JQ,if_pos g4]);exact T.dp this
 have g4: ¬(bI t d c).2≠0:=by simpa using g4
 rw[if_neg g4] at JQ;have Da:(bI t d c).1<aK:=by
  have h1:=Bn (p:=true) gd.ok;have h2:=Bn (p:=false) gc.ok;have h3:=ht.aB;unfold bI aK at *;dsimp only
  repeat' split
  all_goals first|(show(0:Nat)<_;omega)|(show min _ _<_;omega)|(show _<_;split<;>omega)|omega
 generalize hN:(bI t d c).1=N at *
 repeat' first|apply ws;intros|apply wb|with_reducible first|refine pZ hf ?_|refine R3 G gd.ok Da ⟨gd.flags.1,by have:=gd.flags.2;omega⟩ ?_|fail
 refine bE (λg5=>?_) (λg5=>?_)
 ·have g5:(more d true N (decide (has t.flags 2))).2≠0:=by simpa using g5
  have:=bad _ g5 (by rw[JQ,if_pos g5]);exact T.dp this
 have g5: ¬(more d true N (decide (has t.flags 2))).2≠0:=by simpa using g5
 rw[if_neg g5] at JQ
 repeat' first|apply ws;intros|apply wb|with_reducible first|refine pZ hf ?_|refine Pa G gc.ok Da ⟨gc.flags.1,by have:=gc.flags.2;omega⟩ ?_|fail
 refine bE (λg6=>?_) (λg6=>?_)
 ·have g6:(more c false N (decide (has t.flags 2))).2≠0:=by simpa using g6
  have:=bad _ g6 (by rw[JQ,if_pos g6]);exact T.dp this
 have g6: ¬(more c false N (decide (has t.flags 2))).2≠0:=by simpa using g6
 rw[if_neg g6] at JQ;obtain⟨md,mdi,mds⟩:=Js (q:=decide (has t.flags 2)) gd (ad6.1 g5);obtain⟨mc,mci,mcs⟩:=Js (q:=decide (has t.flags 2)) gc (ad6.1 g6);have e:b.move t=(0,b.yM t N):=by unfold ax.move;dsimp only;rw[JQ];rfl
 rw[e] at h;have em:b.yM t N=((b.aD (close (more d true N (decide (has t.flags 2))).1 (has t.flags 64))).aD (close (more c false N (decide (has t.flags 2))).1 (has t.flags 128))).ka t {t with aB:=N} (waits t):=by unfold ax.yM;rw[hd,hc]
 rw[em] at h;have last:∀(D C:aP)(r1 r2 r3 r4:Nat),AG D->AG C->D.id=d.id->C.id=c.id->D.ae=d.ae->C.ae=c.ae->
    (∀cU,Ext (cZ b) hs (cZ (((b.aD D).aD C).ka t {t with aB:=N} (waits t))) cU 6->T W (f (((b.aD D).aD C).ka t {t with aB:=N} (waits t),cU)) (K (.i 0)))->
    T W (Sep.pt r4 (nm N)::Sep.pt r3 (fW D C)::Sep.pt r2 (aJ zK)::Sep.pt r1 (ai t)::L) (lN.j2 K r3 (some ⟨p,0,none⟩) r1 r4):=by
  intro D C r1 r2 r3 r4 gD gC X' hCi hDs hCs hh;have SM:b.find D.id=some d:=by rw[X',EV];exact hd
  have eD:({D with ae:=d.ae}:aP)=D:=by rw[<-hDs]
  have eC:({C with ae:=c.ae}:aP)=C:=by rw[<-hCs]
  have SN:(b.aD D).find C.id=some c:=Cz (by rw[hCi,Eh];exact hc) (by rw[X',hCi,EV,Eh];exact gU);have pI:=hg.ae;have lH:=hg.lH;have many:=hg.many;unfold lN.j2;apply ws;intros;refine EE (p:=p) SM (by rw[eD];exact gD) (by omega) λuU x1=>?_;have l1:=x1.len;have i1:=i.next (b.aD D,uU);apply ws;intros;refine EE (p:=p) SN (by rw[eC];exact gC) (by omega) λfh x2=>?_;have l2:=x2.len;have i2:=i.next ((b.aD D).aD C,fh)
  repeat' first|apply ws;intros|apply wb|with_reducible refine pZ hf ?_|fail
  have XH:KG (o7 ((b.aD D).aD C) t {t with aB:=N} (waits t)):=by
   have cl:=hg.clock;refine⟨ht,⟨ht.id,ht.aF,ht.ar,Da,ht.pending,ht.timeout,ht.aG,ht.code,ht.flags,?_,?_⟩,NH,NH,hf,hf,?_,ck.timeout,cl⟩
   ·show q6 (b.ae+1);unfold q6;omega
   ·show q6 b.clock;unfold q6;omega
   ·show 0<=waits t/\waits t<=4;unfold Md.waits;split<;>decide
  have Hd:((b.aD D).aD C).named ({t with aB:=N}:Move).id=none:=hn;refine Jc (p:=p) (waits:=decide (has t.flags 2)) Hd (show b.kept.length<96 by omega) XH (by unfold Md.waits;by_cases q:has t.flags 2<;>simp[q]) (by omega) λrB x3=>?_;apply ws;intros;have:=hh rB (((x1.trans x2).trans x3).mono (by omega));exact T.dp this
 obtain⟨cd,cdi,cds⟩:=GF (yes:=has t.flags 64) md;obtain⟨cc,cci,ccs⟩:=GF (yes:=has t.flags 128) mc;have Sy:∀(D:aP)(r1 r2 r3 r4:Nat),D=close (more d true N (decide (has t.flags 2))).1 (has t.flags 64)->T W (Sep.pt r4 (nm N)::Sep.pt r3 (fW D (more c false N (decide (has t.flags 2))).1)::Sep.pt r2 (aJ zK)::Sep.pt r1 (ai t)::L) (lN.j1 K r1 r3 (some ⟨p,0,none⟩) r4):=by
  intro D r1 r2 r3 r4 hD;unfold lN.j1;apply ws;intros;rw[NZ hf.1 hf.2];have fin:=last D (close (more c false N (decide (has t.flags 2))).1 (has t.flags 128)) r1 r2 r3 r4 (by rw[hD];exact cd) cc (by rw[hD,cdi,mdi]) (by rw[cci,mci]) (by rw[hD,cds,mds]) (by rw[ccs,mcs]) (by rw[hD];exact h);refine dP (λq=>?_) (λq=>?_)
  ·apply ws;intros;rw[Y' mc.flags.1 mc.flags.2];unfold close at fin;rw[if_pos q] at fin;exact fin
  ·unfold close at fin;rw[if_neg q] at fin;exact fin
 apply ws;intros;rw[SU hf.1 hf.2];refine dP (λq=>?_) (λq=>?_)
 ·apply ws;intros;rw[Y' md.flags.1 md.flags.2];exact Sy _ _ _ _ _ (by unfold close;rw[if_pos q])
 ·exact Sy _ _ _ _ _ (by unfold close;rw[if_neg q])
end
section
variable {m t:Move} {x1 x2 x3 x4 x5 x6 x7 x8 x9 zF zE zD zC Cw G7 G6:Value} {n:Nat} {i:Int}
instance:Wr (ai m) 2 (nm n) (ai {m with aF:=n}):=⟨rfl,by show 4<=16;decide,kx n⟩
instance:Wr (ai m) 4 (nm n) (ai {m with ar:=n}):=⟨rfl,by show 6<=16;decide,kx n⟩
end
section
variable {W:World} {L R:LH} {K:VK} {X:WK} {p:Nat} {b:ax} {hs:List C} {f:ax×List C->LH} {t q:Move} {d c:aP} {n:Nat} {fate:Int} {k:Kept}
def QA(h:T W L (K (.bool (decide (¬c7 t q))))):T W L (dy (ai t) (ai q) K):=by
 unfold dy;have j3:∀(r1 r2:Nat)(x:Bool),((x=true/\(t.code=0\/t.code=q.code))↔ ¬c7 t q)->T W (Sep.pt r2 (ai q)::Sep.pt r1 (ai t)::L) (dy.j3 K r1 r2 x):=by
  intro r1 r2 x hx;unfold dy.j3;refine bE (λg=>?_) (λg=>?_)
  ·repeat' first|apply ws;intros|apply wb|with_reducible refine bE (λh1=>?_) (λh1=>?_)|fail
   ·have h1:t.code=0:=by simpa using h1
    rw[decide_eq_true (hx.1 ⟨g,.inl h1⟩)] at h;exact T.dp h
   ·have h1: ¬t.code=0:=by simpa using h1
    refine T.fin (T.dp h) ?_
    congr 1
    rw[aee];simp only[beq_iff_eq,decide_eq_true_eq];rw[<-hx]
    constructor
    ·exact λe=>⟨g,.inr e⟩
    ·rintro⟨_,e|e⟩
     ·exact absurd e h1
     ·exact e
  ·rw[decide_eq_false (λhh=>by rw[(hx.2 hh).1] at g;cases g)] at h;exact T.dp h
 have j2:∀(r1 r2:Nat)(x:Bool),((x=true/\(t.aG=0\/t.aG=q.aG)/\(t.code=0\/t.code=q.code))↔ ¬c7 t q)->T W (Sep.pt r2 (ai q)::Sep.pt r1 (ai t)::L) (dy.j2 K r1 r2 x):=by
  intro r1 r2 x hx;unfold dy.j2;refine bE (λg=>?_) (λg=>?_)
  ·repeat' first|apply ws;intros|apply wb|with_reducible refine bE (λh1=>?_) (λh1=>?_)|fail
   ·have h1:t.aG=0:=by simpa using h1
    exact j3 _ _ _ (by rw[<-hx];simp[g,h1])
   ·have h1: ¬t.aG=0:=by simpa using h1
    exact j3 _ _ _ (by rw[<-hx];simp[g,h1])
  ·exact j3 _ _ _ (by rw[<-hx];simp[g])
 have j1:∀(r1 r2:Nat)(x:Bool),((x=true/\(t.ar=0\/t.ar=q.ar)/\(t.aG=0\/t.aG=q.aG)/\(t.code=0\/t.code=q.code))↔ ¬c7 t q)->T W (Sep.pt r2 (ai q)::Sep.pt r1 (ai t)::L) (dy.j1 K r1 r2 x):=by
  intro r1 r2 x hx;unfold dy.j1;refine bE (λg=>?_) (λg=>?_)
  ·repeat' first|apply ws;intros|apply wb|with_reducible first|refine qy ?_|refine bE (λh1=>?_) (λh1=>?_)|fail
   ·have h1:=of_decide_eq_true h1;exact j2 _ _ _ (by rw[<-hx];simp[g,h1])
   ·have h1:=of_decide_eq_false h1;exact j2 _ _ _ (by rw[<-hx];simp[g,h1])
  ·exact j2 _ _ _ (by rw[<-hx];simp[g])
 have Ed:((t.aF=0\/t.aF=q.aF)/\(t.ar=0\/t.ar=q.ar)/\(t.aG=0\/t.aG=q.aG)/\(t.code=0\/t.code=q.code))↔ ¬c7 t q:=by unfold c7;omega
 repeat' first|apply ws;intros|apply wb|with_reducible first|refine qy ?_|refine bE (λh1=>?_) (λh1=>?_)|fail
 ·have h1:=of_decide_eq_true h1;exact j1 _ _ _ (by rw[<-Ed];simp[h1])
 ·have h1:=of_decide_eq_false h1;exact j1 _ _ _ (by rw[<-Ed];simp[h1])
def kd(KI:Option Kept)(t:Move):Int:=match KI with
 |none=>23
 |some k=>if ¬has k.move.flags 2 then 24 else if c7 t k.move then 25 else if 1<k.fate then 25+k.fate else 0
def Q4(G:pn W)[i:Lc (bh p) L (b,hs) f](h0:∀m,kd (b.named t.pending) t≠0->T W L (K (.tuple ⟨[.agg ⟨ai m⟩,.i (kd (b.named t.pending) t)]⟩)))
 (h:∀k,b.named t.pending=some k->kd (b.named t.pending) t=0->T W L (K (.tuple ⟨[.agg ⟨ai k.move⟩,.i 0]⟩))):T W L (uF (some ⟨p,0,none⟩) (ai t) K):=by
 refine mT (p:=p) λhg=>?_;unfold uF
 repeat' first|apply ws;intros|apply wb|with_reducible refine EK ?_|fail
 cases hn:b.named t.pending with
 |none=>
  rw[hn] at h0;simp only[aey,aeK];have:=h0 zT (by show(23:Int)≠0;decide);apply ws;intros;exact T.dp this
 |some k=>
  rw[hn] at h0 h;obtain⟨kg,_⟩:=qY hg hn;simp only[aeq,aeu]
  repeat' first|apply ws;intros|apply wb|with_reducible refine pZ kg.rI ?_|fail
  by_cases g1:has k.move.flags 2
  ·rw[decide_eq_true g1]
   repeat' first|apply ws;intros|apply wb|with_reducible refine QA ?_|fail
   by_cases g2:c7 t k.move
   ·have e:kd (some k) t=25:=by unfold kd;dsimp only;rw[if_neg (λh=>h g1),if_pos g2]
    rw[e] at h0;have:=h0 zT (by decide);rw[decide_eq_false (λh=>h g2)];apply ws;intros;exact T.dp this
   ·rw[decide_eq_true g2];obtain⟨f1,f2⟩:=kg.fate;have e:kd (some k) t=if 1<k.fate then 25+k.fate else 0:=by unfold kd;dsimp only;rw[if_neg (λh=>h g1),if_neg g2]
    obtain⟨fn,ZI⟩:∃fn:Nat,k.fate=fn:=⟨k.fate.toNat,by omega⟩;have Ma:fn<5:=by omega
    have Pj:([.i 0,.i 0,.i 27,.i 28,.i 29]:LV)[fn]?=some (.i (if 1<k.fate then 25+k.fate else 0)):=by
     rw[ZI]
     match fn,Ma with
     |0,_=>rfl
     |1,_=>rfl
     |2,_=>rfl
     |3,_=>rfl
     |4,_=>rfl
    apply ws;intros;refine cN ⟨f1,by omega⟩ ?_;have hnt:k.fate.toNat* 1=fn:=by omega
    rw[hnt];have yV:=G.told fn _ Pj;refine λw fh=>⟨_,by rw[fh.old (Ab yV)];exact yV,?_⟩;refine T.at ?_ fh;apply ws;intros;refine λw fh=>⟨λj v hj=>?_,?_⟩
    ·match j,hj with
     |0,hj=>
      simp at hj;subst hj;have Me:=yV;rw[dU,adW] at Me;rw[dU,aeN,fh.old (Ab Me)];exact Me
    refine T.at ?_ fh;apply ws;intros;rw[<-e];by_cases g3:kd (some k) t=0
    ·rw[g3];have:=h k rfl g3;exact T.dp this
    ·have:=h0 k.move g3;exact T.dp this
  ·have e:kd (some k) t=24:=by unfold kd;dsimp only;rw[if_pos g1]
   rw[e] at h0;have:=h0 zT (by decide);rw[decide_eq_false g1];apply ws;intros;exact T.dp this
def X1{f:Int}(h0:0<=f)(h1:f<256):(bB .i64 .and f 8!=0)=decide (has f 8):=by
 rw[aee];simp only[bne_iff_ne,ne_eq,decide_eq_true_eq];rw[OB h0 h1,ad6]
def Lf(hf:0<=t.flags/\t.flags<256)(UT:has t.flags 8↔ ¬has t.flags 4)(h0:iO t q->T W L (K (.tuple ⟨[.agg ⟨nm 0⟩,.i 26]⟩)))
 (h: ¬iO t q->T W L (K (.tuple ⟨[.agg ⟨nm (bM t q)⟩,.i 0]⟩))):T W L (kG (ai t) (ai q) K):=by
 unfold kG
 repeat' first|apply ws;intros|apply wb|with_reducible refine qy ?_|fail
 refine dP (λg1=>?_) (λg1=>?_)
 ·have e:bM t q=q.aB:=if_pos g1;have hb: ¬iO t q:=by unfold iO;rw[e];omega
  have:=h hb;rw[e] at this;apply ws;intros;exact T.dp this
 have e:bM t q=t.aB:=if_neg g1;unfold kG.j1;apply ws;intros;rw[X1 hf.1 hf.2];refine dP (λg2=>?_) (λg2=>?_)
 ·apply ws;intros;by_cases g3:t.aB=q.aB
  ·have hb: ¬iO t q:=by
    unfold iO;rw[e];have:=UT.1 g2;rintro(⟨h4,_⟩|⟨_,h4⟩)
    ·exact this h4
    ·exact h4 g3
   have:=h hb;rw[e] at this;rw[decide_eq_true g3]
   repeat' first|apply ws;intros|apply wb|with_reducible refine yw ?_|fail
   refine dV (by simp;omega) ?_;apply ws;intros;exact T.dp this
  ·have hb:iO t q:=.inr ⟨UT.1 g2,by rw[e];exact g3⟩;have:=h0 hb;rw[decide_eq_false g3];apply ws;intros;exact T.dp this
 ·have g4:has t.flags 4:=ad6.1 λhh=>g2 (UT.2 hh)
  repeat' first|apply ws;intros|apply wb|with_reducible refine yw ?_|fail
  refine dP (λg3=>?_) (λg3=>?_)
  ·have:=h0 (.inl ⟨g4,by rw[e];exact g3⟩);apply ws;intros;exact T.dp this
  ·have:=h (by
    rintro(⟨_,h4⟩|⟨h4,_⟩)
    ·rw[e] at h4;exact g3 h4
    ·exact h4 g4)
   rw[e] at this;apply ws;intros;exact T.dp this
def UO{f:Int}(h0:0<=f)(h1:f<256):(bB .i64 .and f 64==0)=decide (¬has f 64):=by
 rw[aee];simp only[beq_iff_eq,decide_eq_true_eq];rw[OC h0 h1]
def Q8{f:Int}(h0:0<=f)(h1:f<256):(bB .i64 .and f 128==0)=decide (¬has f 128):=by
 rw[aee];simp only[beq_iff_eq,decide_eq_true_eq];rw[J1 h0 h1]
def Le[i:Lc (bh p) L (b,hs) f](hq:0<=q.flags/\q.flags<256)(hd:b.find q.aF=some d)(hc:b.find q.ar=some c)
 (h:T W L (K (.i (if 8<=d.flags/\ ¬has q.flags 64 then 30 else if 8<=c.flags/\ ¬has q.flags 128 then 31 else 0)))):T W L (jN (some ⟨p,0,none⟩) (ai q) K):=by
 refine mT (p:=p) λhg=>?_;have fd:=(hg.Mj d (aeQ hd)).flags;have fc:=(hg.Mj c (aeQ hc)).flags;unfold jN
 repeat' first|apply ws;intros|apply wb|with_reducible refine sf ?_|fail
 rw[hd,hc];simp only[aeq,aeu];rename_i r1 r2 r3;have j1:∀x:Bool,(x=true↔(8<=d.flags/\ ¬has q.flags 64))->T W (Sep.pt r3 (ak c)::Sep.pt r2 (ak d)::Sep.pt r1 (ai q)::L) (jN.j1 K r3 r1 x):=by
  intro x hx;unfold jN.j1;refine bE (λg=>?_) (λg=>?_)
  ·rw[if_pos (hx.1 g)] at h;exact T.dp h
  rw[if_neg (λhh=>by rw[hx.2 hh] at g;cases g)] at h;apply ws;intros;rw[Q7 fc.1 fc.2];refine dP (λg1=>?_) (λg1=>?_)
  ·apply ws;intros;rw[Q8 hq.1 hq.2];refine dP (λg2=>?_) (λg2=>?_)
   ·rw[if_pos ⟨g1,g2⟩] at h;exact T.dp h
   ·rw[if_neg (λhh=>g2 hh.2)] at h;exact T.dp h
  ·rw[if_neg (λhh=>g1 hh.1)] at h;exact T.dp h
 rw[Q7 fd.1 fd.2];refine dP (λg1=>?_) (λg1=>?_)
 ·apply ws;intros;rw[UO hq.1 hq.2];exact j1 _ (by simp[g1])
 ·exact j1 _ (by simp[g1])
end
section
variable {b:ax} {t q:Move} {d c:aP} {n:Nat} {fate:Int}
def Qe(hd:AG d)(hn:fate=2->d.dq+n<aK):AG (vA d q n fate):=by
 obtain⟨⟨i1,i2,i3,i4,i5,i6,i7,i8,i9⟩,i10,i11,i12⟩:=hd;have hf:0<=d.flags%8/\d.flags%8<16:=by omega
 unfold vA open_;split
 ·exact⟨⟨i1,by show d.dp-q.aB<aK;omega,by show d.dq+n<aK;exact hn (by assumption),i4,i5,i6,i7,i8,i9⟩,i10,i11,i12⟩
 ·split
  ·exact⟨⟨i1,by show d.dp-q.aB<aK;omega,i3,i4,i5,i6,i7,by show q6 (d.flags%8);unfold q6;omega,i9⟩,⟨i10.1,i10.2.1,by show 0<=d.flags%8/\d.flags%8<=65535;omega⟩,hf,i12⟩
  ·exact⟨⟨i1,by show d.dp-q.aB<aK;omega,i3,i4,i5,i6,i7,i8,i9⟩,i10,i11,i12⟩
def Qf(hd:AG d)(hn:fate=2->d.cq+n<aK):AG (wB d q n fate):=by
 obtain⟨⟨i1,i2,i3,i4,i5,i6,i7,i8,i9⟩,i10,i11,i12⟩:=hd;have hf:0<=d.flags%8/\d.flags%8<16:=by omega
 unfold wB open_;split
 ·exact⟨⟨i1,i2,i3,by show d.cp-q.aB<aK;omega,by show d.cq+n<aK;exact hn (by assumption),i6,i7,i8,i9⟩,i10,i11,i12⟩
 ·split
  ·exact⟨⟨i1,i2,i3,by show d.cp-q.aB<aK;omega,i5,i6,i7,by show q6 (d.flags%8);unfold q6;omega,i9⟩,⟨i10.1,i10.2.1,by show 0<=d.flags%8/\d.flags%8<=65535;omega⟩,hf,i12⟩
  ·exact⟨⟨i1,i2,i3,by show d.cp-q.aB<aK;omega,i5,i6,i7,i8,i9⟩,i10,i11,i12⟩
end
section
variable {W:World} {L R:LH} {K:VK} {X:WK} {p:Nat} {b:ax} {hs:List C} {f:ax×List C->LH} {t q:Move} {d c:aP} {n:Nat} {fate:Int} {k:Kept}
def CM[i:Lc (bh p) L (b,hs) f](hk:b.named q.id=some k)(Q1:k.fate=1)(hq:0<=q.flags/\q.flags<256)(Um:q.aB<aK)(Da:n<aK)(hd:b.find q.aF=some d)(hc:b.find q.ar=some c)(gU:q.aF≠q.ar)(hf:fate=2\/fate=3\/fate=4)
 (F':fate=2->d.dq+n<aK)(qL:fate=2->c.cq+n<aK)(hl:hs.length<800000)
 (h:∀cU,Ext (cZ b) hs (cZ (b.release q n fate)) cU 4->T W (f (b.release q n fate,cU)) (K (.tuple ⟨[]⟩))):T W L (cf (some ⟨p,0,none⟩) (ai q) (nm n) fate K):=by
 refine mT (p:=p) λhg=>?_;obtain⟨gd,EV⟩:=rS hg hd;obtain⟨gc,Eh⟩:=rS hg hc;have er:b.release q n fate=((b.aD (vA d q n fate)).aD (wB c q n fate)).fate q.id fate:=by unfold ax.release;rw[hd,hc]
 rw[er] at h;have last:∀(D E:aP)(r1 r2 r3 r4:Nat),D=vA d q n fate->E=wB c q n fate->T W (Sep.pt r4 (ak E)::Sep.pt r3 (ak D)::Sep.pt r2 (nm n)::Sep.pt r1 (ai q)::L) (cf.j1 K r3 (some ⟨p,0,none⟩) r4 r1 fate):=by
  intro D E r1 r2 r3 r4 hD hE;have X':D.id=d.id:=by rw[hD];exact(DQ _ _ _ _).1
  have hEi:E.id=c.id:=by rw[hE];exact(DR _ _ _ _).1
  have gD:AG {D with ae:=d.ae}:=by
   have:=Qe (q:=q) (n:=n) (fate:=fate) gd F';rw[<-hD] at this;have es:D.ae=d.ae:=by rw[hD];exact(DQ _ _ _ _).2
   have e2:({D with ae:=d.ae}:aP)=D:=by rw[<-es]
   rw[e2];exact this
  have gE:AG {E with ae:=c.ae}:=by
   have:=Qf (q:=q) (n:=n) (fate:=fate) gc qL;rw[<-hE] at this;have es:E.ae=c.ae:=by rw[hE];exact(DR _ _ _ _).2
   have e2:({E with ae:=c.ae}:aP)=E:=by rw[<-es]
   rw[e2];exact this
  rw[<-hD,<-hE] at h;unfold cf.j1;apply ws;intros;refine EE (p:=p) (by rw[X',EV];exact hd) gD (by omega) λuU x1=>?_;have l1:=x1.len;have i1:=i.next (b.aD D,uU);apply ws;intros;refine EE (p:=p) (old:=c) (Cz (by rw[hEi,Eh];exact hc) (by rw[X',hEi,EV,Eh];exact gU)) gE (by omega) λfh x2=>?_;have l2:=x2.len;have i2:=i.next ((b.aD D).aD E,fh);apply ws;intros;refine TL (p:=p) (k:=k) (show((b.aD D).aD E).named q.id=some k from hk) Q1 hf (by omega) λrB x3=>?_;apply ws;intros;have:=h rB (((x1.trans x2).trans x3).mono (by omega));exact T.dp this
 have WO:∀x y:Nat,(if x<y then 0 else x-y)=x-y:=λx y=>by split<;>omega
 unfold cf
 repeat' first|apply ws;intros|apply wb|with_reducible refine sf ?_|fail
 rw[hd,hc];simp only[aeq,aeu]
 repeat' first|apply ws;intros|apply wb|with_reducible first|refine ON gd.ok.dp Um ?_|refine ON gc.ok.cp Um ?_|fail
 rw[WO,WO];refine bE (λg1=>?_) (λg1=>?_)
 ·have g1:fate=2:=by simpa using g1
  repeat' first|apply ws;intros|apply wb|with_reducible first|refine zi gd.ok.dq Da ?_|refine zi gc.ok.cq Da ?_|fail
  rw[if_pos (F' g1),if_pos (qL g1)];refine last _ _ _ _ _ _ ?_ ?_
  ·unfold vA;rw[if_pos g1]
  ·unfold wB;rw[if_pos g1]
 ·have g1: ¬fate=2:=by simpa using g1
  have j2:∀(D:aP)(r1 r2 r3 r4:Nat),D=vA d q n fate->T W (Sep.pt r4 (ak {c with cp:=c.cp-q.aB})::Sep.pt r3 (ak D)::Sep.pt r2 (nm n)::Sep.pt r1 (ai q)::L) (cf.j2 K r1 r4 r3 (some ⟨p,0,none⟩) fate):=by
   intro D r1 r2 r3 r4 hD;unfold cf.j2;apply ws;intros;rw[NZ hq.1 hq.2];refine dP (λg2=>?_) (λg2=>?_)
   ·apply ws;intros;rw[S5 gc.flags.1 gc.flags.2];refine last _ _ _ _ _ _ hD ?_;unfold wB open_;rw[if_neg g1,if_pos g2]
   ·refine last _ _ _ _ _ _ hD ?_;unfold wB open_;rw[if_neg g1,if_neg g2]
  apply ws;intros;rw[SU hq.1 hq.2];refine dP (λg2=>?_) (λg2=>?_)
  ·apply ws;intros;rw[S5 gd.flags.1 gd.flags.2];refine j2 _ _ _ _ _ ?_;unfold vA open_;rw[if_neg g1,if_pos g2]
  ·refine j2 _ _ _ _ _ ?_;unfold vA open_;rw[if_neg g1,if_neg g2]
structure GZ(b:ax)(k:Kept):Prop where
 aF:∃d,b.find k.move.aF=some d/\k.move.aB<=d.dp/\d.dp+d.dq<aK
 ar:∃c,b.find k.move.ar=some c/\k.move.aB<=c.cp/\c.cp+c.cq<aK
 ne:k.move.aF≠k.move.ar
def Ie{id:Nat}(hn:b.named id=none){id':Nat}:(b.fate id' fate).named id=none:=by
 unfold ax.named at *;rw[afc] at *;intro x hx;obtain⟨y,hy,rfl⟩:=aeC.1 hx;have:=hn y hy;split<;>exact this
def Cb{id:Nat}(hn:b.named id=none):(b.release q n fate).named id=none:=by
 unfold ax.release;split
 ·exact Ie hn
 ·exact hn
def UH(G:pn W)(ht:uX t)(NH:jT t)(pw:kz t=0)(nj:gv t.flags)(hw:∀k∈b.kept,has k.move.flags 2->k.fate<=1->k.fate=1/\GZ b k)(hl:hs.length<800000)[i:Lc (bh p) L (b,hs) f]
 (h:∀cU,Ext (cZ b) hs (cZ (b.lW t).2) cU 8->T W (f ((b.lW t).2,cU)) (K (.i (b.lW t).1))):T W L (nH (some ⟨p,0,none⟩) (ai t) K):=by
 have hL:f (b,hs)=L:=i.same;refine mT (p:=p) λhg=>?_;have ck:=ym pw;have hf:0<=t.flags/\t.flags<256:=by have:=ck.flags;omega
 have bad:∀r:Int,r≠0->(b.lW t)=(r,b)->T W L (K (.i r)):=by
  intro r hr e;rw[e] at h;have:=h hs (Ext.refl _ _ _);rw[hL] at this;exact this
 unfold nH
 repeat' first|apply ws;intros|apply wb|with_reducible refine EK ?_|fail
 cases hn:b.named t.id with
 |some k=>
  obtain⟨hk,_⟩:=qY hg hn;simp only[aeq,aeu]
  repeat' first|apply ws;intros|apply wb|with_reducible refine Fg hf hk.qw ?_|fail
  have:=bad (qx t k.asked) (oD _ _) (by
   unfold ax.lW
   have e1:∀(KI:Option Kept)(x y:Bool)(m:Nat),kK t (some k) KI x y m=qx t k.asked:=by
    intro KI x y m;unfold kK;rw[if_neg (by simpa using pw),if_neg (by simpa using nj)]
   rw[hn]
   cases b.named t.pending with
   |none=>dsimp only;rw[e1]
   |some k2=>dsimp only;rw[e1,if_pos (oD _ _)])
  exact T.dp this
 |none=>
 simp only[aey,aeK];apply ws;intros;have JQ:∀(k2:Kept),b.named t.pending=some k2->∀(x y:Bool)(m:Nat),kK t none (some k2) x y m=(if kd (some k2) t≠0 then kd (some k2) t else if iO t k2.move then 26 else if has t.flags 4/\x=true then 30 else if has t.flags 4/\y=true then 31 else if 96<=m then 35 else 0):=by
  intro k2 _ x y m;unfold kK;rw[if_neg (by simpa using pw),if_neg (by simpa using nj)];dsimp only;by_cases g1: ¬has k2.move.flags 2
  ·have hv:kd (some k2) t=24:=by unfold kd;dsimp only;rw[if_pos g1]
   rw[hv,if_pos g1,if_pos (by decide)]
  by_cases g2:c7 t k2.move
  ·have hv:kd (some k2) t=25:=by unfold kd;dsimp only;rw[if_neg g1,if_pos g2]
   rw[hv,if_neg g1,if_pos g2,if_pos (by decide)]
  by_cases g3:1<k2.fate
  ·have hv:kd (some k2) t=25+k2.fate:=by unfold kd;dsimp only;rw[if_neg g1,if_neg g2,if_pos g3]
   rw[hv,if_neg g1,if_neg g2,if_pos g3,if_pos (by omega)]
  ·have hv:kd (some k2) t=0:=by unfold kd;dsimp only;rw[if_neg g1,if_neg g2,if_neg g3]
   rw[hv,if_neg g1,if_neg g2,if_neg g3,if_neg (show ¬((0:Int)≠0) by decide)]
 refine Q4 G (λm gU=>?_) (λk2 rl he=>?_)
 ·apply ws;intros;refine kq (by simpa using gU) ?_;have:=bad _ gU (by
   unfold ax.lW
   rw[hn]
   cases hp:b.named t.pending with
   |none=>
    dsimp only
    have:kK t none none false false b.kept.length=23:=by unfold kK;rw[if_neg (by simpa using pw),if_neg (by simpa using nj)]
    rw[this];rfl
   |some k2=>
    rw[hp] at gU
    dsimp only
    rw[JQ k2 hp,if_pos gU,if_pos gU])
  exact T.dp this
 apply ws;intros;rw[rl] at he;obtain⟨kg,aaG⟩:=qY hg rl;have JN:k2∈b.kept:=aeQ rl;have h2p:has k2.move.flags 2/\k2.fate<=1:=by
  unfold kd at he;dsimp only at he;by_cases g1: ¬has k2.move.flags 2
  ·rw[if_pos g1] at he;cases he
  rw[if_neg g1] at he;by_cases g2:c7 t k2.move
  ·rw[if_pos g2] at he;cases he
  rw[if_neg g2] at he;by_cases g3:1<k2.fate
  ·rw[if_pos g3] at he;omega
  exact⟨ad6.1 g1,by omega⟩
 obtain⟨Q5,⟨⟨d,hd,hda,hds⟩,⟨c,hc,hca,Px⟩,gU⟩⟩:=hw k2 JN h2p.1 h2p.2;have e0:∀r:Int,r=(if iO t k2.move then 26 else if has t.flags 4/\b.iY k2.move.aF (has k2.move.flags 64)=true then 30 else if has t.flags 4/\b.iY k2.move.ar (has k2.move.flags 128)=true then 31 else if 96<=b.kept.length then 35 else 0)->
  b.lW t=(if r≠0 then(r,b) else(0,(b.release k2.move (bM t k2.move) (bU t)).ka t (jO t k2.move) 0)):=by
  intro r hr;subst hr;unfold ax.lW;rw[rl,hn];dsimp only;rw[JQ k2 rl,he,if_neg (show ¬((0:Int)≠0) by decide)]
 have UT:has t.flags 8↔ ¬has t.flags 4:=(GG pw nj).2.1;refine dV (by simp) ?_;apply ws;intros;refine Lf hf UT (λhb=>?_) (λhb=>?_)
 ·apply ws;intros;have:=bad 26 (by decide) (by rw[e0 26 (by rw[if_pos hb])];rfl);exact T.dp this
 have hN:bM t k2.move<aK:=by unfold bM;split;exact kg.move.aB;exact ht.aB
 have X8:has t.flags 4->bM t k2.move<=k2.move.aB:=λh4=>by
  unfold iO at hb;by_cases hx:k2.move.aB<bM t k2.move
  ·exact absurd (.inl ⟨h4,hx⟩) hb
  ·omega
 have pI:=hg.ae;have lH:=hg.lH;have many:=hg.many;have cl:=hg.clock;have fin:∀(r1 r2 r3 r4:Nat)(fate:Int),fate=bU t->(if 96<=b.kept.length then b.lW t=(35,b) else b.lW t=(0,(b.release k2.move (bM t k2.move) (bU t)).ka t (jO t k2.move) 0))->
  T W (Sep.pt r4 (nm (bM t k2.move))::Sep.pt r3 (ai k2.move)::Sep.pt r2 (aJ zK)::Sep.pt r1 (ai t)::L) (nH.j1 K (some ⟨p,0,none⟩) r3 r4 r1 fate):=by
  intro r1 r2 r3 r4 fate ZJ Cm;unfold nH.j1
  repeat' first|apply ws;intros|apply wb|with_reducible refine OT ?_|fail
  by_cases g3:96<=b.kept.length
  ·rw[if_pos g3] at Cm;rw[decide_eq_false (by omega)];apply ws;intros;have:=bad 35 (by decide) Cm;exact T.dp this
  rw[if_neg g3] at Cm;rw[decide_eq_true (by omega)];rw[Cm,<-ZJ] at h;apply ws;intros;have hf3:fate=2\/fate=3\/fate=4:=by rw[ZJ];unfold bU;split<;>simp
  have h24:fate=2->has t.flags 4:=λe=>by
   rw[ZJ] at e;unfold bU at e;split at e
   ·assumption
   ·cases e
  refine CM (p:=p) (k:=k2) (d:=d) (c:=c) (by rw[aaG];exact rl) Q5 kg.rI kg.move.aB hN hd hc gU hf3 (λe=>by have:=X8 (h24 e);omega) (λe=>by have:=X8 (h24 e);omega) hl λuU x1=>?_;have l1:=x1.len;have i1:=i.next (b.release k2.move (bM t k2.move) fate,uU);apply ws;intros;have hrk:(b.release k2.move (bM t k2.move) fate).kept.length=b.kept.length:=by unfold ax.release;rw[hd,hc];show(List.map _ _).length=_;rw[aei];rfl
  have hrs:(b.release k2.move (bM t k2.move) fate).ae=b.ae:=by unfold ax.release;rw[hd,hc];rfl
  have hrc:(b.release k2.move (bM t k2.move) fate).clock=b.clock:=by unfold ax.release;rw[hd,hc];rfl
  have XH:KG (o7 (b.release k2.move (bM t k2.move) fate) t (jO t k2.move) 0):=by
   have kt:=kg.Jr;have adx:=NH;refine⟨ht,⟨ht.id,kg.move.aF,kg.move.ar,hN,ht.pending,ht.timeout,kg.move.aG,kg.move.code,ht.flags,?_,?_⟩,NH,⟨NH.1,kt.2.1,kt.2.2.1,NH.2.2.2⟩,hf,hf,by show(0:Int)<=0/\(0:Int)<=4;decide,ck.timeout,?_⟩
   ·show q6 (ax.ae _+1);rw[hrs];unfold q6;omega
   ·show q6 (ax.clock _);rw[hrc];unfold q6;omega
   ·show 0<=ax.clock _/\ax.clock _<=_;rw[hrc];exact cl
  refine Jc (p:=p) (t:=jO t k2.move) (waits:=false) (fate:=0) (Cb hn) (by rw[hrk];omega) XH rfl (by omega) λfh x2=>?_;apply ws;intros;have:=h fh ((x1.trans x2).mono (by omega));exact T.dp this
 apply ws;intros;refine dV (by decide) ?_;apply ws;intros;rw[aaZ hf.1 hf.2];refine dP (λg4=>?_) (λg4=>?_)
 ·apply ws;intros;refine Le (p:=p) kg.rI hd hc ?_;have c1:(b.iY k2.move.aF (has k2.move.flags 64)=true)↔(8<=d.flags/\ ¬has k2.move.flags 64):=by unfold ax.iY;rw[hd];simp
  have c2:(b.iY k2.move.ar (has k2.move.flags 128)=true)↔(8<=c.flags/\ ¬has k2.move.flags 128):=by unfold ax.iY;rw[hc];simp
  by_cases g5:8<=d.flags/\ ¬has k2.move.flags 64
  ·rw[if_pos g5];apply ws;intros;refine kq (by decide) ?_;have:=bad 30 (by decide) (by rw[e0 30 (by rw[if_neg hb,if_pos ⟨g4,c1.2 g5⟩])];rfl);exact T.dp this
  rw[if_neg g5];by_cases g6:8<=c.flags/\ ¬has k2.move.flags 128
  ·rw[if_pos g6];apply ws;intros;refine kq (by decide) ?_;have:=bad 31 (by decide) (by rw[e0 31 (by rw[if_neg hb,if_neg (λhh=>g5 (c1.1 hh.2)),if_pos ⟨g4,c2.2 g6⟩])];rfl);exact T.dp this
  rw[if_neg g6];apply ws;intros;refine dV (by decide) ?_;refine fin _ _ _ _ _ (by unfold bU;rw[if_pos g4]) ?_;by_cases g7:96<=b.kept.length
  ·rw[if_pos g7,e0 35 (by rw[if_neg hb,if_neg (λhh=>g5 (c1.1 hh.2)),if_neg (λhh=>g6 (c2.1 hh.2)),if_pos g7])];rfl
  ·rw[if_neg g7,e0 0 (by rw[if_neg hb,if_neg (λhh=>g5 (c1.1 hh.2)),if_neg (λhh=>g6 (c2.1 hh.2)),if_neg g7])];rfl
 ·refine fin _ _ _ _ _ (by unfold bU;rw[if_neg g4]) ?_;by_cases g7:96<=b.kept.length
  ·rw[if_pos g7,e0 35 (by rw[if_neg hb,if_neg (λhh=>g4 hh.1),if_neg (λhh=>g4 hh.1),if_pos g7])];rfl
  ·rw[if_neg g7,e0 0 (by rw[if_neg hb,if_neg (λhh=>g4 hh.1),if_neg (λhh=>g4 hh.1),if_neg g7])];rfl
def X9(G:pn W)(ht:uX t)(NH:jT t)(hw:∀k∈b.kept,has k.move.flags 2->k.fate<=1->k.fate=1/\GZ b k)(hl:hs.length<800000)[i:Lc (bh p) L (b,hs) f]
 (h:∀cU,Ext (cZ b) hs (cZ (b.nW t).2) cU 8->T W (f ((b.nW t).2,cU)) (K (.i (b.nW t).1))):T W L (kj (some ⟨p,0,none⟩) (ai t) K):=by
 unfold kj
 repeat' first|apply ws;intros|apply wb|with_reducible refine Ff G ht ?_|fail
 unfold kj.j1;refine bE (λg1=>?_) (λg1=>?_)
 ·have g1:kz t≠0:=by simpa using g1
  have e:b.nW t=b.move t:=by unfold ax.nW;rw[if_neg (λhh=>g1 hh.1)]
  rw[e] at h;apply ws;intros;refine Sw G ht NH hl λcU hx=>?_;apply ws;intros;have:=h cU (hx.mono (by omega));exact T.dp this
 have g1:kz t=0:=by simpa using g1
 have ck:=ym g1
 repeat' first|apply ws;intros|apply wb|with_reducible refine ER (show 0<=t.flags/\t.flags<256 by have:=ck.flags;omega) ?_|fail
 by_cases g2:gv t.flags
 ·have e:b.nW t=b.lW t:=by unfold ax.nW;rw[if_pos ⟨g1,g2⟩]
  rw[e] at h;rw[decide_eq_true g2];apply ws;intros;refine UH G ht NH g1 g2 hw hl λcU hx=>?_;apply ws;intros;have:=h cU hx;exact T.dp this
 ·have e:b.nW t=b.move t:=by unfold ax.nW;rw[if_neg (λhh=>g2 hh.2)]
  rw[e] at h;rw[decide_eq_false g2];apply ws;intros;refine Sw G ht NH hl λcU hx=>?_;apply ws;intros;have:=h cU (hx.mono (by omega));exact T.dp this
end
section
variable {W:World} {L R:LH} {K:VK} {X:WK} {p:Nat} {b:ax} {hs:List C} {f:ax×List C->LH}
def zI:Item:=⟨0,0,0⟩
instance{x1 x2 x3 x4:Value}:Wr [x1,x2,x3,x4] 0 [.i 0,.i 0,.u 0,.u 0] (dG zI):=⟨rfl,adY _,mq zI⟩
instance{x:Item}:Sub (dG x) 2 2 (nm x.id):=⟨rfl,λj v h=>by
 match j with
 |0=>exact h
 |1=>exact h
 |j+2=>simp[nm] at h⟩
def Nf{r o:Nat}{cs:LV}{bb:OA}{c:Nat}{h:List Item}(hv:cs[o]?=some (.l bb h.length c))(hl:h.length<10000)
 (hx:∀x,h[0]?=some x->T W (Sep.pt r cs::own bb h.length c 4 (h.flatMap dG)::R) (K (.tuple ⟨[.agg ⟨dG x⟩,.bool true]⟩)))
 (h0:h=[]->T W (Sep.pt r cs::own bb h.length c 4 (h.flatMap dG)::R) (K (.tuple ⟨[.agg ⟨dG zI⟩,.bool false]⟩))):
 T W (Sep.pt r cs::own bb h.length c 4 (h.flatMap dG)::R) (jK (some ⟨r,o,none⟩) K):=by
 unfold jK pq;refine qD λr1=>?_;refine tG ?_;refine zk ?_;refine jH hv ?_;refine tD ?_;refine lG ?_;refine bE (λg=>?_) (λg=>?_)
 ·have g:h=[]:=by
   have:((h.length:Nat):Int)=0:=by simpa using g
   exact List.length_eq_zero_iff.1 (by omega)
  apply ws;intros;have:=h0 g;exact T.dp this
 ·have g:0<h.length:=by
   have: ¬((h.length:Nat):Int)=0:=by simpa using g
   omega
  refine zk ?_;refine jH hv ?_;refine tD ?_;have gx:=adS g;refine bQ ⟨by omega,by omega⟩ λrb hb=>?_;subst hb;refine dx (o:=0) eX gx ?_;apply ws;intros;have:=hx _ gx;exact T.dp this
def Lw{q:Core}{f:Core->LH}[i:Lc (dL p) L q f](hl:q.ends.length<10000)
 (h1:∀x,x∈q.ends->(∀y∈q.ends,¬bf y x)->T W L (K (.tuple ⟨[.agg ⟨dG x⟩,.bool true]⟩)))(h0:q.ends=[]->T W L (K (.tuple ⟨[.agg ⟨dG zI⟩,.bool false]⟩))):T W L (jK (some ⟨p,6,none⟩) K):=by
 have hL:f q=L:=i.same;rw[<-hL] at h0 h1;refine mz (p:=p) λb1 c1 b2 c2 b3 c3 hp R g1 g2 hc=>?_;refine T.HF ?_;refine Nf rfl (by rw[g2.length_eq];exact hl) (λx hx=>?_) (λhn=>?_)
 ·refine T.AF ?_;exact hc [] q b1 c1 b2 c2 b3 c3 hp _ g1 g2 (h1 x (g2.mem_iff.1 (aek hx)) λy hy=>g1.first hx y (g2.mem_iff.2 hy))
 ·refine T.AF ?_;exact hc [] q b1 c1 b2 c2 b3 c3 hp _ g1 g2 (h0 (by subst hn;exact(List.nil_perm.1 g2)))
def tick(b:ax)(now:Int):ax:={b with clock:=if b.clock<now/\now<=1099511627776 then now else b.clock}
def P9[i:Lc (bh p) L (b,hs) f]{now:Int}(hl:hs.length<900000)
 (h:∀cU,Ext (cZ b) hs (cZ (Go.Up.tick b now)) cU 1->T W (f (Go.Up.tick b now,cU)) (K (.tuple ⟨[]⟩))):T W L (cn (some ⟨p,0,none⟩) now K):=by
 refine G8 (p:=p) λla lk ti tn vs bx R hg hc lR=>?_;have JH:vs.reverse.length<900000:=by rw[aeO,hc.len];omega
 have XV:=hg.clock;have same: ¬(b.clock<now/\now<=1099511627776)->Go.Up.tick b now=b:=λhn=>by unfold Go.Up.tick;rw[if_neg hn]
 unfold cn;apply ws;intros;rename_i r1;refine dP (λg=>?_) (λg=>?_)
 ·have g:now<=b.clock:=g;have e:=same (by omega);rw[e] at h;have fin:=lR [] b hs vs bx _ hg hc (h hs (Ext.refl _ _ _));unfold cn.j1;apply ws;intros;exact T.dp fin
 have g: ¬now<=b.clock:=g;unfold cn.j1;refine dP (λg2=>?_) (λg2=>?_)
 ·have g2:now>1099511627776:=g2;have e:=same (by omega);rw[e] at h;have fin:=lR [] b hs vs bx _ hg hc (h hs (Ext.refl _ _ _));exact T.dp fin
 have g2: ¬now>1099511627776:=g2;have e:Go.Up.tick b now={b with clock:=now}:=by unfold Go.Up.tick;rw[if_pos ⟨by omega,by omega⟩]
 rw[e] at h;apply ws;intros;rename_i r2;refine Hs (p:=p) ?_;apply ws;intros;refine ry (p:=p) (by show vs.reverse.length<_;omega) rfl rfl ?_;apply ws;intros;refine cz (cz ?_);have lQ:Good {b with clock:=now}:={hg with clock:=by show 0<=now/\now<=_;omega};have fin:=λkA c1=>lR [] {b with clock:=now} _ (Sc r2 r1::vs) kA _ lQ c1 (h _ ⟨[cZ b],rfl,rfl,by simp⟩);simp only[dz,afn] at fin;refine fin _ ⟨?_,hc.mono λx hx=>by simp[hx]⟩;exact zh.time (c:=cZ {b with clock:=now}) (by repeat (first|exact aeH.head _|apply aeH.tail)) (by repeat (first|exact aeH.head _|apply aeH.tail))
def M8[i:Lc (bh p) L (b,hs) f]
 (h1:∀k,k∈b.kept->jq b.clock k->T W L (K (.tuple ⟨[.agg ⟨aJ k⟩,.bool true]⟩)))
 (h0:(∀k∈b.kept,¬jq b.clock k)->T W L (K (.tuple ⟨[.agg ⟨aJ zK⟩,.bool false]⟩))):T W L (cJ (some ⟨p,0,none⟩) K):=by
 have hL:f (b,hs)=L:=i.same;refine G8 (p:=p) λla lk ti tn vs bx R hg hc lR=>?_;have many:=hg.many;unfold cJ;apply ws;intros;refine Lw (p:=p) (by have:=xf b;show(b.kept.filterMap df).length<_;omega) (λx hx uV=>?_) (λhn=>?_)
 ·obtain⟨k,hk,hkd⟩:=List.mem_filterMap.1 hx;obtain⟨e1,e2,e3,e4,e5⟩:=nq hkd;have hn:b.named x.id=some k:=by
   obtain⟨n,hn,rfl⟩:=List.getElem_of_mem hk;have:=uz (key:=λx:Kept=>x.move.id) hg.names hn;rw[e2];exact(rM (key:=λx:Kept=>x.move.id) this).2.2
  apply ws;intros;unfold cJ.j1;refine dP (λg=>?_) (λg=>?_)
  ·have g:x.due<=b.clock:=g;have fin:=lR [] b hs vs bx _ hg hc (by rw[hL];exact h1 k hk ⟨e4,e5,by omega⟩);apply ws;intros;refine EL (b:=b) (q:=dz la lk ti tn vs (cZ b)) many ?_;rw[hn];simp only[aeq,aeu];apply ws;intros;exact T.dp fin
  ·have g: ¬x.due<=b.clock:=g;have fin:=lR [] b hs vs bx _ hg hc (by
    rw[hL]
    refine h0 λk' ye ho=>?_
    have SO:df k'=some ⟨k'.move.born+k'.move.timeout,k'.move.ae,k'.move.id⟩:=by unfold df;rw[if_pos ⟨ho.1,ho.2.1⟩]
    have:=uV _ (List.mem_filterMap.2 ⟨k',ye,SO⟩)
    have h3:=ho.2.2
    unfold bf at this
    dsimp only at this
    omega)
   apply ws;intros;exact T.dp fin
 ·have fin:=lR [] b hs vs bx _ hg hc (by
   rw[hL]
   refine h0 λk' ye ho=>?_
   have SO:df k'=some ⟨k'.move.born+k'.move.timeout,k'.move.ae,k'.move.id⟩:=by unfold df;rw[if_pos ⟨ho.1,ho.2.1⟩]
   have:_∈b.kept.filterMap df:=List.mem_filterMap.2 ⟨k',ye,SO⟩
   rw[show b.kept.filterMap df=[] from hn] at this
   cases this)
  apply ws;intros;unfold cJ.j1;apply ws;intros;exact T.dp fin
end
def Dq{b:ax}{m:Model}(hs:lX b m)(hg:Md.Ground m){id:Nat}(h:id∈m.made.map (·.id)):∃a,a∈m.made/\a.id=id/\b.find id=some (Md.full m.kept a):=by
 obtain⟨a,ha,rfl⟩:=aeC.1 h;refine⟨a,ha,rfl,?_⟩;rw[hs.find];unfold Model.find;rw[mW hg.ids ha];rfl
def BT{b:ax}{m:Model}(hs:lX b m)(hg:Md.Ground m){k:Kept}(hk:k∈m.kept)(h1:k.fate=1):GZ b k:=by
 obtain⟨gU,hd,hc⟩:=hg.tJ k hk;obtain⟨d,Eg,EV,fd⟩:=Dq hs hg hd;obtain⟨c,Mc,Eh,fc⟩:=Dq hs hg hc;have zd:=hg.zero d Eg;have zc:=hg.zero c Mc;refine⟨⟨_,fd,?_,?_⟩,⟨_,fc,?_,?_⟩,gU⟩
 ·have:=OR (vZ d.id) m.kept k hk;have e:vZ d.id k=k.move.aB:=if_pos ⟨h1,EV.symm⟩;show k.move.aB<=d.dp+S (vZ d.id) m.kept;omega
 ·show d.dp+S (vZ d.id) m.kept+(d.dq+S (yh d.id) m.kept)<aK;have:=hg.vP d Eg;omega
 ·have:=OR (wa c.id) m.kept k hk;have e:wa c.id k=k.move.aB:=if_pos ⟨h1,Eh.symm⟩;show k.move.aB<=c.cp+S (wa c.id) m.kept;omega
 ·show c.cp+S (wa c.id) m.kept+(c.cq+S (yi c.id) m.kept)<aK;have:=hg.sW c Mc;omega
def RV{b:ax}{m:Model}(hs:lX b m)(hg:Md.Ground m):∀k∈b.kept,has k.move.flags 2->k.fate<=1->k.fate=1/\GZ b k:=λk hk h2 hf=>by
 rw[hs.kept] at hk;have:=hg.tg k hk;have h1:k.fate=1:=by have:=this.2.2.1 h2;omega
 exact⟨h1,BT hs hg hk h1⟩
def Bu(c:Int)(k:Kept):Kept:=if jq c k then{k with fate:=4} else k
def yJ(c:Int)(l:List Kept):Nat:=(l.filter λk=>jq c k).length
def CX{c:Int}:∀{l:List Kept} {i:Nat}(hi:i<l.length),jq c l[i]->yJ c (l.set i {l[i] with fate:=4})+1=yJ c l
 |x::l,0,hi,h=>by
  have h2: ¬jq c {x with fate:=4}:=λhh=>absurd hh.1 (show ¬(4:Int)=1 by decide);have h:jq c x:=h;show((({x with fate:=4}:Kept)::l).filter _).length+1=((x::l).filter _).length;rw[aeS (by simpa using h2),aeR (by simpa using h),ad']
 |x::l,i+1,hi,h=>by
  have:=CX (c:=c) (l:=l) (i:=i) (by simpa using hi) h;show((x::l.set i _).filter _).length+1=((x::l).filter _).length;by_cases hx:jq c x
  ·rw[aeR (by simpa using hx),aeR (by simpa using hx),ad',ad'];exact congrArg (·+1) this
  ·rw[aeS (by simpa using hx),aeS (by simpa using hx)];exact this
structure RZ(m m':Model):Prop where
 made:m'.made=m.made
 ae:m'.ae=m.ae
 clock:m'.clock=m.clock
 kept:m'.kept.map (Bu m.clock)=m.kept.map (Bu m.clock)
def RZ.refl(m:Model):RZ m m:=⟨rfl,rfl,rfl,rfl⟩
def CY{b:ax}{m0 m:Model}(hs:lX b m)(hg:Md.Ground m)(hx:RZ m0 m){k:Kept}(hk:k∈b.kept)(ho:jq b.clock k):
 b.named k.move.id=some k/\GZ b k/\∃m',lX (b.release k.move 0 4) m'/\Md.Ground m'/\RZ m0 m'/\yJ m0.clock m'.kept+1=yJ m0.clock m.kept:=by
 rw[hs.kept] at hk;rw[hs.clock] at ho;obtain⟨i,hi,rfl⟩:=List.getElem_of_mem hk;have JK:b.named m.kept[i].move.id=some m.kept[i]:=by
  have:=uz (key:=λx:Kept=>x.move.id) hg.names hi;rw[hs.D5];exact(rM (key:=λx:Kept=>x.move.id) this).2.2
 refine⟨JK,BT hs hg hk ho.1,m.cL i 4,hs.release hg hi ho.1 (.inr rfl) 0,hg.cL hi ho.1 (.inr (.inr rfl)),⟨hx.made,hx.ae,hx.clock,?_⟩,?_⟩
 ·rw[<-hx.kept];rw[hx.clock] at ho;exact(Gv hi m0.clock).resolve_right (λhh=>hh ho)
 ·rw[hx.clock] at ho;rw[oo hi];exact CX hi ho
def CZ{b:ax}{m0 m:Model}(hs:lX b m)(hx:RZ m0 m)(h:∀k∈b.kept,¬jq b.clock k):m={m0 with kept:=m0.kept.map (Bu m0.clock)}:=by
 have h2:m.kept.map (Bu m0.clock)=m.kept:=Gw (m:=m) (clock:=m0.clock) λk hk=>by
  have:=h k (by rw[hs.kept];exact hk);rwa[hs.clock,hx.clock] at this
 rw[<-hx.kept,h2];obtain⟨x1,x2,x3,x4⟩:=hx;cases m;cases m0
 simp only at x1 x2 x3;subst x1;subst x2;subst x3;rfl
def qc(m:Model)(now:Int):Model:={m with clock:=if m.clock<now/\now<=1099511627776 then now else m.clock}
def DF(m:Model)(now:Int):m.time now={qc m now with kept:=(qc m now).kept.map (Bu (qc m now).clock)}:=rfl
def LR{b:ax}{m:Model}(hs:lX b m)(now:Int):lX (Go.Up.tick b now) (qc m now):=⟨hs.ag,hs.kept,by unfold Go.Up.tick qc;simp only[hs.clock],hs.ae⟩
def zf{m:Model}(hg:Md.Ground m)(now:Int):Md.Ground (qc m now):=⟨hg.zero,hg.ids,hg.lH,hg.names,hg.tg,hg.tJ,hg.some_,hg.vP,hg.sW,hg.qU⟩
end Go.Up
