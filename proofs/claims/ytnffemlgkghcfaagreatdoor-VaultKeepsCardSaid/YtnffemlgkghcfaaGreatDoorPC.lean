/- Part of the proof: see the last text. -/
import Derived.Test.YtnffemlgkghcfaaGreatDoorPB
set_option linter.all false
set_option maxRecDepth 100000
set_option synthInstance.maxSize 100000
open Bool renaming eq_iff_iff→aek,false_eq_true→aeo,false_ne_true→aeq
open Decidable renaming not_not→aea
open Go.IntKind renaming i64→adU
open Int renaming toNat_natCast→adY,le_refl→afy
open List renaming map_cons→aez,map_nil→afw,getElem?_eq_getElem→adX,getElem?_eq_some_iff→adZ,replicate→aec,append_nil→aei,getElem?_set→aet,map_append→aeu,getElem?_map→aeJ,flatMap_cons→aeN,flatMap_append→aeV,getElem?_eq_none→aeZ,ext_getElem?→afg,getElem?_range→afq,range→aft,map_map→afx,length_cons→aee,mem_of_getElem?→aep,mem_or_eq_of_mem_set→aeC,length_set→ae2,length_replicate→ae4,set_cons_succ→afc,getElem?_of_mem→aff,take_length→ad',Perm→aem,take_succ_eq_append_getElem→aeS,perm_middle→ae',length_append→ad0,length_take→ad2,append_assoc→ad5,length_drop→ad9,take_add_one→aeg,take_append_drop→aer,length_reverse→aeU,pairwise_iff_getElem→ae3,getElem?_drop→afd,perm_append_comm→ad7,getElem?_append_left→ael,drop_eq_getElem_cons→aeD,drop_of_length_le→aeF,getElem?_take→afo,length_singleton→afk,Sublist→aeb,mem_map→aeI,mem_cons→afe,nil_append→aeA,set_set→afb,take_zero→afm,reverse_cons→afs,mem_append→aeB,mem_of_find?_eq_some→aeW,map_congr_left→ae6,find?_eq_none→afh,getElem_mem→aej,length_map→aen,getElem?_cons_succ→aed,cons_append→afa,Mem→aeO,getElem?_append_right→aey,filter_cons_of_pos→aeX,filter_cons_of_neg→aeY
open Nat renaming zero_add→ad1,zero_le→ad6,mod_eq_of_lt→aeH,mul_le_mul_right→aeL,add_mul→afl,mul_comm→afv,pow_le_pow_right→aeP,le_refl→ad4,add_zero→aeT,sub_self→afj,mul_one→afn
open Option renaming some→aeh,map_some→aeK,isSome_some→aev,getD_some→aew,isSome_none→aeE,getD_none→aeQ,map→afA
namespace Go.Up
open Go.Sep Go.Den Go.RowKit Go.Prog Go.Md
def EO:∀(xs ys:List Int),xs.length=ys.length->fq (xs.map (.int .i64)) (ys.map (.int .i64))=decide (xs=ys)
 |[],[],_=>rfl
 |[],_::_,h=>by simp at h
 |_::_,[],h=>by simp at h
 |x::xs,y::ys,h=>by
  simp only[aez,fq,vO];rw[EO xs ys (by simpa using h),aek];simp
def kk{a b:Nat}{xs ys:LV}:fq (nm a++xs) (nm b++ys)=(decide (a=b)&&fq xs ys):=by rw[pz (show(nm a).length=(nm b).length from rfl),Tg]
def EN(t u:Move):fq (aj t) (aj u)=decide (t=u):=by
 have e:=EO [t.timeout,t.aG,t.code,t.flags,t.ae,t.born] [u.timeout,u.aG,u.code,u.flags,u.ae,u.born] rfl;simp only[aez,afw] at e;unfold aj;rw[kk,kk,kk,kk,kk,e];rw[aek];obtain⟨a,b,c,d,e,f,g,h,i,j,k⟩:=t;obtain⟨a',b',c',d',e',f',g',h',i',j',k'⟩:=u;simp[and_assoc]
def Rs(t u:aO):fq (ak t) (ak u)=decide (t=u):=by
 have e:=EO [t.aG,t.code,t.flags,t.ae] [u.aG,u.code,u.flags,u.ae] rfl;simp only[aez,afw] at e;unfold ak;rw[kk,kk,kk,kk,kk,e];rw[aek];obtain⟨a,b,c,d,e,f,g,h,i⟩:=t;obtain⟨a',b',c',d',e',f',g',h',i'⟩:=u;simp[and_assoc]
def Rr(t u:Kept):fq (aI t) (aI u)=decide (t=u):=by
 unfold aI;rw[pz (show(aj t.asked).length=(aj u.asked).length from rfl),pz (show(aj t.move).length=(aj u.move).length from rfl),EN,EN,aek];obtain⟨a,b,c⟩:=t;obtain⟨a',b',c'⟩:=u;simp[fq,vO]
section
variable {W:World} {L:LH} {K:VK} {a b:aO} {t u:Move} {k j:Kept}
def M4{K:Bool->WK}(h:T W L (K (decide (t=u)))):T W L (nF [.u 0,.u 0,.u 0,.u 0,.u 0,.u 0,.u 0,.u 0,.u 0,.u 0,.i 0,.i 0,.i 0,.i 0,.i 0,.i 0] (aj t) (aj u) K):=Jh rfl rfl (by rw[EN];exact h)
def Su{K:Bool->WK}(h:T W L (K (decide (a=b)))):T W L (nF [.u 0,.u 0,.u 0,.u 0,.u 0,.u 0,.u 0,.u 0,.u 0,.u 0,.i 0,.i 0,.i 0,.i 0] (ak a) (ak b) K):=Jh rfl rfl (by rw[Rs];exact h)
def WU{K:Bool->WK}(h:T W L (K (decide (k=j)))):T W L (nF [.u 0,.u 0,.u 0,.u 0,.u 0,.u 0,.u 0,.u 0,.u 0,.u 0,.i 0,.i 0,.i 0,.i 0,.i 0,.i 0,.u 0,.u 0,.u 0,.u 0,.u 0,.u 0,.u 0,.u 0,.u 0,.u 0,.i 0,.i 0,.i 0,.i 0,.i 0,.i 0,.i 0] (aI k) (aI j) K):=Jh rfl rfl (by rw[Rr];exact h)
def Jg{cs:LV}{n j:Nat}{v:Value}{K:VK}(hj:j<n)(hv:cs[j]?=some v)(h:T W L (K v)):T W L (yU cs n (j:Int) K):=λw hs=>⟨v,⟨by omega,by omega,by rw[adY];exact hv⟩,h w hs⟩
def O0(ha:0<=a.flags/\a.flags<256)(hb:0<=b.flags/\b.flags<256)(h:T W L (K (.i (rD a b)))):T W L (my (ak a) (ak b) K):=by
 unfold my my.j1
 repeat' first|apply ws;intros|apply wb|with_reducible refine bw (λh1=>?_) (λh1=>?_)|fail
 all_goals
  refine T.fin (T.dp h) ?_
  congr 1
  unfold rD
  all_goals try simp only[Tk ha.1 ha.2,Tk hb.1 hb.2,bz] at *
  all_goals (split<;>omega)
def Fc(hf:0<=t.flags/\t.flags<256)(h:T W L (K (.bool (decide (gw t.flags))))):T W L (oy (aj t) K):=by
 unfold oy;apply ws;intros;refine T.fin (T.dp h) ?_;congr 1;(rw[aek];(try simp only[bz,false_iff,true_iff] at *)<;>(try simp only[Tj hf.1 hf.2,aea] at *)<;>omega)
def ql(hf:0<=t.flags/\t.flags<256)(h:T W L (K (.bool (decide (has t.flags 2))))):T W L (iL (aj t) K):=by
 unfold iL;apply ws;intros;refine T.fin (T.dp h) ?_;congr 1;(rw[aek];(try simp only[bz,false_iff,true_iff] at *)<;>(try simp only[Hd hf.1 hf.2,aea] at *)<;>omega)
def B5(hf:0<=t.flags/\t.flags<256)(h:T W L (K (.bool (decide (has t.flags 16\/has t.flags 32))))):T W L (mP (aj t) K):=by
 unfold mP;apply ws;intros;refine T.fin (T.dp h) ?_;congr 1;(rw[aek];(try simp only[bz,false_iff,true_iff] at *)<;>(try simp only[Zv hf.1 hf.2,aea] at *)<;>omega)
def FH(ht:0<=t.flags/\t.flags<256)(hu:0<=u.flags/\u.flags<256)(h:T W L (K (.i (qG t u)))):T W L (qn (aj t) (aj u) K):=by
 unfold qn
 repeat' first|apply ws;intros|apply wb|with_reducible refine M4 ?_|fail
 rw[Ti ht.1 ht.2,Ti hu.1 hu.2];unfold qG at h;have e:({t with flags:=t.flags/2* 2}:Move)={u with flags:=u.flags/2* 2}↔({t with flags:=t.flags/2}:Move)={u with flags:=u.flags/2}:=by
  have z':t.flags/2* 2=u.flags/2* 2↔t.flags/2=u.flags/2:=by omega
  simp only[Md.Move.mk.injEq,z']
 refine dX (λh1=>?_) (λh1=>?_)
 ·rw[if_pos (e.1 (h1))] at h;exact T.dp h
 ·rw[if_neg (λhh=>h1 (e.2 hh))] at h;exact T.dp h
def zC(f:Int)(i:Nat):Int:=(([2,4,8]:List Int).take i).foldl (λn b=>if has f b then n+1 else n) 0
def HL(hf:0<=t.flags/\t.flags<256)(h:T W L (K (.bool (decide (fx t.flags))))):T W L (gS (aj t) K):=by
 unfold gS;apply ws;intros;rename_i r;intro w hs;refine⟨λvs w=>∃i:Nat,i<=3/\vs=[.p (some (ad r 0)),.bool false,.i (zC t.flags i),.agg ⟨[.i 2,.i 4,.i 8]⟩,.i (i:Int)]/\St W w (Sep.pt r (aj t)::L),
  λvs _=>match vs with|[_,_,_,_,.int _ j]=>3-j.toNat|_=>0,⟨0,ad6 _,rfl,hs⟩,?_⟩
 rintro a1 b1 n1 OC n2 w2 ⟨j,hj,e,hs⟩;cases e
 refine T.at ?_ hs;simp only[dZ,ad1];refine dX (λh1=>?_) (λh1=>?_)
 ·have aZ:j<3:=by omega
  have e5:=mh j;have key:∃m:Int,([.i 2,.i 4,.i 8]:LV)[j]?=some (.i m)/\(bC .i64 .and t.flags m=0↔ ¬has t.flags m)/\zC t.flags (j+1)=(if has t.flags m then zC t.flags j+1 else zC t.flags j)/\0<=zC t.flags j/\zC t.flags j<=j:=by
   match j,aZ with
   |0,_=>exact⟨2,rfl,Hd hf.1 hf.2,rfl,afy 0,afy 0⟩
   |1,_=>exact⟨4,rfl,Hc hf.1 hf.2,rfl,by simp only[zC,List.take,List.foldl];split<;>decide,by simp only[zC,List.take,List.foldl];split<;>decide⟩
   |2,_=>exact⟨8,rfl,OQ hf.1 hf.2,rfl,by simp only[zC,List.take,List.foldl];split<;>split<;>decide,by simp only[zC,List.take,List.foldl];split<;>split<;>decide⟩
  obtain⟨m,k1,k2,k3,k4,k5⟩:=key;refine Jg (by omega) k1 ?_
  repeat' first|apply ws;intros|apply wb|with_reducible refine bw (λh1=>?_) (λh1=>?_)|fail
  all_goals rw[e5]
  ·have h2:has t.flags m:=by
    have:=(bne_iff_ne.1 h1);rw[ne_eq,k2,aea] at this;exact this
   rw[if_pos h2] at k3;rw[ar (by omega),<-k3];exact λw3 h3=>⟨⟨j+1,aZ,rfl,h3⟩,by show 3-((j+1:Nat):Int).toNat<3-(j:Int).toNat;omega⟩
  ·have h2: ¬has t.flags m:=k2.1 (bne_eq_false_iff_eq.1 h1);rw[if_neg h2] at k3;rw[<-k3];exact λw3 h3=>⟨⟨j+1,aZ,rfl,h3⟩,by show 3-((j+1:Nat):Int).toNat<3-(j:Int).toNat;omega⟩
 ·have he:j=3:=by omega
  subst he;have hc:zC t.flags 3<=1↔ ¬(has t.flags 2/\has t.flags 4\/has t.flags 2/\has t.flags 8\/has t.flags 4/\has t.flags 8):=by
   simp only[zC,List.take,List.foldl];by_cases h2:has t.flags 2<;>by_cases h4:has t.flags 4<;>by_cases h8:has t.flags 8<;>simp[h2,h4,h8]
  simp only[gS.j1,dZ,ad1]
  repeat' first|apply ws;intros|apply wb|with_reducible first|refine Fc hf ?_|refine ql hf ?_|refine bw (λh1=>?_) (λh1=>?_)|fail
  all_goals
   refine T.fin (T.dp h) ?_
   congr 1
   rw[aek]
   all_goals try simp only[Tj hf.1 hf.2,ac4 hf.1 hf.2,ac5 hf.1 hf.2,hc,true_iff,false_iff,bz] at *
   all_goals (unfold fx;simp_all<;>(intros;omega))
def L2(t:Move):Int:=if t.pending=0 then 16 else if t.aG<0\/4294967296<=t.aG then 8 else if t.code<0\/65536<=t.code then 9 else 0
def L1(t:Move):Int:=if t.aD=0 then 12 else if t.aq=0 then 13 else if t.aD=t.aq then 14 else if t.pending≠0 then 15 else if t.aA=0/\ ¬has t.flags 16/\ ¬has t.flags 32 then 18
 else if t.aG<1\/4294967296<=t.aG then 8 else if t.code<1\/65536<=t.code then 9 else 0
def Oo(h:T W L (K (.i (L2 t)))):T W L (kO (aj t) K):=by
 unfold kO kO.j1
 repeat' first|apply ws;intros|apply wb|with_reducible first|refine qH ?_|refine bw (λh1=>?_) (λh1=>?_)|fail
 all_goals try simp only[bz] at *
 all_goals (refine T.fin (T.dp h) ?_;congr 1;unfold L2;repeat' split)
 all_goals omega
def NQ(hf:0<=t.flags/\t.flags<256)(h:T W L (K (.i (L1 t)))):T W L (gv (aj t) K):=by
 unfold gv gv.j1 gv.j2
 repeat' first|apply ws;intros|apply wb|with_reducible first|refine qH ?_|refine B5 hf ?_|refine bw (λh1=>?_) (λh1=>?_)|fail
 all_goals try simp only[bz] at *
 all_goals (refine T.fin (T.dp h) ?_;congr 1;unfold L1 has at *;repeat' split)
 all_goals first|rfl|omega
def FG(G:pE W)(ht:u3 t)(h:T W L (K (.i (kF t)))):T W L (cT (aj t) K):=by
 by_cases hf:0<=t.flags/\t.flags<256
 ·unfold cT cT.j1 cT.j2 cT.j4 cT.j3;rw[show kF t=if t.flags<0\/255<t.flags then 3 else if t.id=0 then 4 else if t.id=aJ-1 then 5 else if ¬fx t.flags then 6
   else if t.ae≠0\/t.born≠0 then 7 else if t.timeout<0\/1073741824<t.timeout\/0<t.timeout/\ ¬has t.flags 2 then 17
   else if gw t.flags then L2 t else L1 t from rfl] at h
  repeat' first|apply ws;intros|apply wb|with_reducible first|refine qH ?_|refine Jf ⟨ud _,G.QN⟩ ?_|refine HL hf ?_|refine Fc hf ?_|refine ql hf ?_|refine Oo ?_|refine NQ hf ?_|refine bw (λh1=>?_) (λh1=>?_)|fail
  all_goals try simp only[bz] at *
  all_goals (refine T.fin (T.dp h) ?_;congr 1;repeat' split)
  all_goals first|rfl|omega|(simp_all;done)|(simp_all;omega)
 ·unfold cT cT.j1;rw[show kF t=3 from if_pos (by omega)] at h;apply ws;intros;refine dX (λh1=>?_) (λh1=>?_)
  ·rw[gW];exact T.dp h
  apply ws;intros;rw[decide_eq_true (by omega),gW];exact T.dp h
end
end Go.Up
namespace Go.Md
def gj(a:aO)(aD:Bool):Nat:=if aD then a.cq-(a.dp+a.dq) else a.dq-(a.cp+a.cq)
def more(a:aO)(aD:Bool)(n:Nat)(pending:Bool):aO×Int:=
 if aD then
  (if aJ<=a.dp+a.dq+n then(a,32) else if has a.flags 2/\gj a true<n then(a,33) else(if pending then{a with dp:=a.dp+n} else{a with dq:=a.dq+n},0))
 else
  (if aJ<=a.cp+a.cq+n then(a,32) else if has a.flags 4/\gj a false<n then(a,34) else(if pending then{a with cp:=a.cp+n} else{a with cq:=a.cq+n},0))
def Model.full(m:Model)(a:aO):aO:=m.kept.foldl sC a
def Model.find(m:Model)(id:Nat):Option aO:=m.made.find? λa=>a.id=id
def Model.name(m:Model)(id:Nat):Option Nat:=m.kept.findIdx? λk=>k.move.id=id
def Model.make(m:Model)(a:aO):Int×Model:=
 if qM a≠0 then(qM a,m) else match m.find a.id with
 |some x=>(rD a x,m)
 |none=>if 32<=m.made.length then(35,m) else(0,{m with ae:=m.ae+1,made:=m.made++[{a with ae:=m.ae+1,flags:=a.flags/2* 2}]})
def Model.jA(m:Model)(asked t:Move)(fate:Int):Model:=
 {m with ae:=m.ae+1,kept:=m.kept++[⟨asked,{t with ae:=m.ae+1,born:=m.clock},fate⟩]}
def bF(t:Move)(d c:aO):Nat×Int:=
 let n0:=if t.aA=0 then aJ-1 else t.aA
 let n1:=if has t.flags 16 then min n0 (gj d true) else n0
 if has t.flags 16/\n1=0 then(0,33) else
 let n2:=if has t.flags 32 then min n1 (gj c false) else n1
 if has t.flags 32/\n2=0 then(0,34) else(n2,0)
def gN(t:Move)(named:Option Kept)(d c:Option aO)(many:Nat):Int×Nat:=
 if kF t≠0 then(kF t,0) else if gw t.flags then(6,0) else match named with
 |some k=>(qG t k.asked,0)
 |none=>match d with
  |none=>(19,0)
  |some d=>match c with
   |none=>(20,0)
   |some c=>
    if d.aG≠c.aG then(21,0) else if d.aG≠t.aG then(22,0) else if 8<=d.flags then(30,0) else if 8<=c.flags then(31,0)
    else if 96<=many then(35,0)
    else if(bF t d c).2≠0 then((bF t d c).2,0)
    else if(more d true (bF t d c).1 (decide (has t.flags 2))).2≠0 then((more d true (bF t d c).1 (decide (has t.flags 2))).2,0)
    else if(more c false (bF t d c).1 (decide (has t.flags 2))).2≠0 then((more c false (bF t d c).1 (decide (has t.flags 2))).2,0)
    else(0,(bF t d c).1)
def waits(t:Move):Int:=if has t.flags 2 then 1 else 0
def Model.named(m:Model)(id:Nat):Option Kept:=m.kept.find? λk=>k.move.id=id
def Model.move(m:Model)(t:Move):Int×Model:=
 let r:=gN t (m.named t.id) ((m.find t.aD).map m.full) ((m.find t.aq).map m.full) m.kept.length
 if r.1≠0 then(r.1,m) else(0,m.jA t {t with aA:=r.2} (waits t))
def Model.closed(m:Model)(id:Nat)(RN:Nat):Bool:=
 match m.find id with
 |some a=>decide (8<=((m.kept.modify RN λk=>{k with fate:=3}).foldl sC a).flags)
 |none=>false
def c8(t p:Move):Prop:=(t.aD≠0/\t.aD≠p.aD)\/(t.aq≠0/\t.aq≠p.aq)\/(t.aG≠0/\t.aG≠p.aG)\/(t.code≠0/\t.code≠p.code)
instance(t p:Move):Decidable (c8 t p):=by unfold c8;infer_instance
def bJ(t p:Move):Nat:=if t.aA=0 then p.aA else t.aA
def iS(t p:Move):Prop:=(has t.flags 4/\p.aA<bJ t p)\/(¬has t.flags 4/\bJ t p≠p.aA)
instance(t p:Move):Decidable (iS t p):=by unfold iS;infer_instance
def kT(t:Move)(named K1:Option Kept)(RC RK:Bool)(many:Nat):Int:=
 if kF t≠0 then kF t else if ¬gw t.flags then 6 else match named with
 |some k=>qG t k.asked
 |none=>match K1 with
  |none=>23
  |some k=>
   if ¬has k.move.flags 2 then 24 else if c8 t k.move then 25 else if 1<k.fate then 25+k.fate else if iS t k.move then 26
   else if has t.flags 4/\RC=true then 30 else if has t.flags 4/\RK=true then 31 else if 96<=many then 35 else 0
def bU(t:Move):Int:=if has t.flags 4 then 2 else 3
def jV(t p:Move):Move:={t with aD:=p.aD,aq:=p.aq,aA:=bJ t p,aG:=p.aG,code:=p.code}
def Model.cJ(m:Model)(i:Nat)(fate:Int):Model:={m with kept:=m.kept.modify i λk=>{k with fate:=fate}}
def Model.me(m:Model)(t:Move):Int×Model:=
 match m.name t.pending with
 |none=>(kT t (m.named t.id) none false false m.kept.length,m)
 |some i=>match m.kept[i]? with
  |none=>(kT t (m.named t.id) none false false m.kept.length,m)
  |some k=>
   let r:=kT t (m.named t.id) (some k) (m.closed k.move.aD i) (m.closed k.move.aq i) m.kept.length
   if r≠0 then(r,m) else(0,(m.cJ i (bU t)).jA t (jV t k.move) 0)
def jy(clock:Int)(k:Kept):Prop:=k.fate=1/\0<k.move.timeout/\k.move.born+k.move.timeout<=clock
instance(clock:Int)(k:Kept):Decidable (jy clock k):=by unfold jy;infer_instance
def Model.time(m:Model)(now:Int):Model:=
 let clock:=if m.clock<now/\now<=1099511627776 then now else m.clock
 {m with clock:=clock,kept:=m.kept.map λk=>if jy clock k then{k with fate:=4} else k}
def Model.ov(m:Model)(t:Move):Int×Model:=if kF t=0/\gw t.flags then m.me t else m.move t
def ax.find(b:ax)(id:Nat):Option aO:=b.ah.find? λa=>a.id=id
def ax.aF(b:ax)(a:aO):ax:={b with ah:=b.ah.map λx=>if x.id=a.id then{a with ae:=x.ae} else x}
def ax.jA(b:ax)(asked t:Move)(fate:Int):ax:=
 {b with ae:=b.ae+1,kept:=b.kept++[⟨asked,{t with ae:=b.ae+1,born:=b.clock},fate⟩]}
def ax.fate(b:ax)(id:Nat)(fate:Int):ax:={b with kept:=b.kept.map λk=>if k.move.id=id/\k.fate=1 then{k with fate:=fate} else k}
def ax.make(b:ax)(a:aO):Int×ax:=
 if qM a≠0 then(qM a,b) else match b.find a.id with
 |some x=>(rD a x,b)
 |none=>if 32<=b.ah.length then(35,b) else(0,{b with ae:=b.ae+1,ah:=b.ah++[{a with ae:=b.ae+1,flags:=a.flags/2* 2}]})
def close(a:aO)(yes:Prop)[Decidable yes]:aO:=if yes then{a with flags:=a.flags%8+8} else a
def open_(a:aO)(yes:Prop)[Decidable yes]:aO:=if yes then{a with flags:=a.flags%8} else a
def ax.named(b:ax)(id:Nat):Option Kept:=b.kept.find? λk=>k.move.id=id
def ax.yR(b:ax)(t:Move)(n:Nat):ax:=
 match b.find t.aD,b.find t.aq with
 |some d,some c=>((b.aF (close (more d true n (decide (has t.flags 2))).1 (has t.flags 64))).aF (close (more c false n (decide (has t.flags 2))).1 (has t.flags 128))).jA t {t with aA:=n} (waits t)
 |_,_=>b
def ax.move(b:ax)(t:Move):Int×ax:=
 let r:=gN t (b.named t.id) (b.find t.aD) (b.find t.aq) b.kept.length
 if r.1≠0 then(r.1,b) else(0,b.yR t r.2)
def vF(d:aO)(p:Move)(n:Nat)(fate:Int):aO:=if fate=2 then{d with dp:=d.dp-p.aA,dq:=d.dq+n} else open_ {d with dp:=d.dp-p.aA} (has p.flags 64)
def wF(c:aO)(p:Move)(n:Nat)(fate:Int):aO:=if fate=2 then{c with cp:=c.cp-p.aA,cq:=c.cq+n} else open_ {c with cp:=c.cp-p.aA} (has p.flags 128)
def ax.release(b:ax)(p:Move)(n:Nat)(fate:Int):ax:=
 match b.find p.aD,b.find p.aq with
 |some d,some c=>((b.aF (vF d p n fate)).aF (wF c p n fate)).fate p.id fate
 |_,_=>b
def ax.je(b:ax)(id:Nat)(by_:Prop)[Decidable by_]:Bool:=match b.find id with|some d=>decide (8<=d.flags/\ ¬by_)|none=>false
def ax.me(b:ax)(t:Move):Int×ax:=
 match b.named t.pending with
 |none=>(kT t (b.named t.id) none false false b.kept.length,b)
 |some k=>
  let r:=kT t (b.named t.id) (some k) (b.je k.move.aD (has k.move.flags 64)) (b.je k.move.aq (has k.move.flags 128)) b.kept.length
  if r≠0 then(r,b) else(0,(b.release k.move (bJ t k.move) (bU t)).jA t (jV t k.move) 0)
def ax.ov(b:ax)(t:Move):Int×ax:=if kF t=0/\gw t.flags then b.me t else b.move t
end Go.Md
namespace Go.Up
open Go.Sep Go.Den Go.RowKit Go.Prog Go.Md
section
variable {W:World} {L:LH} {K:VK} {a:aO} {n m:Nat} {p:Bool}
def TV{a b:Nat}:(if a+b<aJ then a+b else aJ-1)<aJ:=by unfold aJ;split<;>omega
def Jb(G:pE W)(hn:n<aJ)(hm:m<aJ)(h:T W L (K (.agg ⟨nm (if n+m<aJ then n+m else aJ-1)⟩))):T W L (ft (nm n) (nm m) K):=by
 unfold ft
 repeat' first|apply ws;intros|apply wb|with_reducible first|refine zo hn hm ?_|refine Jf ⟨ud _,G.QN⟩ ?_|refine bw (λh1=>?_) (λh1=>?_)|fail
 all_goals (refine T.fin (T.dp h) ?_;congr 3;all_goals try simp only[bz] at *)
 ·rw[if_neg (by omega)]
 ·rw[if_pos h1,if_pos h1]
def Fa(G:pE W)(ha:vn a)(h:T W L (K (.agg ⟨nm (gj a p)⟩))):T W L (bS (ak a) p K):=by
 obtain⟨-,d1,d2,c1,c2,-,-,-,-⟩:=ha;unfold bS;have k1:∀x y z:Nat,x<aJ->y<aJ->z<aJ->(if x<(if y+z<aJ then y+z else aJ-1) then 0 else x-(if y+z<aJ then y+z else aJ-1))=x-(y+z):=λx y z hx hy hz=>by
  by_cases hh:y+z<aJ
  ·rw[if_pos hh];split<;>omega
  ·rw[if_neg hh];split<;>omega
 have e1:p=true->gj a p=a.cq-(a.dp+a.dq):=λe=>by rw[e];rfl
 have e2:p=false->gj a p=a.dq-(a.cp+a.cq):=λe=>by rw[e];rfl
 repeat' first|apply ws;intros|apply wb|with_reducible first|refine Jb G d1 d2 ?_|refine Jb G c1 c2 ?_|refine bw (λh1=>?_) (λh1=>?_)|fail
 all_goals simp only[bS.j1,bS.j2,bS.j3,bS.j4,bS.j5,bS.j6]
 all_goals repeat' first|apply ws;intros|apply wb|with_reducible refine O5 (by assumption) TV ?_|fail
 all_goals (refine T.fin (T.dp h) ?_;first|rw[e1 (by assumption),k1 _ _ _ (by assumption) (by assumption) (by assumption)]|rw[e2 (by assumption),k1 _ _ _ (by assumption) (by assumption) (by assumption)])
def Bv(ha:vn a):gj a p<aJ:=by
 have:=ha.dq;have:=ha.cq;unfold gj;split<;>omega
def Nc(x y z:Nat):yI 0 [x,y,z]=if x+y+z<aJ then some (x+y+z) else none:=by
 simp only[yI,ad1]
 repeat' split
 all_goals first|rfl|omega
def Sd(G:pE W)(ha:vn a)(hn:n<aJ)(hf:0<=a.flags/\a.flags<256)(h:T W L (K (.tuple ⟨[.agg ⟨ak (more a true n p).1⟩,.i (more a true n p).2]⟩))):T W L (jY (ak a) (nm n) p K):=by
 unfold jY;apply ws;intros;rename_i r4;refine Tm (l:=[a.dp,a.dq,n]) (by simp;exact⟨ha.dp,ha.dq,hn⟩) (by show 3<1000;decide) ?_;rw[Nc];apply ws;intros;unfold more at h;refine bw (λh1=>?_) (λh1=>?_)
 ·have hh: ¬a.dp+a.dq+n<aJ:=λhh=>by rw[if_pos hh] at h1;cases h1
  rw[if_pos rfl,if_pos (by omega)] at h;apply ws;intros;exact T.dp h
 have hh:a.dp+a.dq+n<aJ:=by
  by_cases hh:a.dp+a.dq+n<aJ
  ·exact hh
  ·rw[if_neg hh] at h1;cases h1
 rw[if_pos rfl,if_neg (by omega)] at h;have j1:∀r5 r4 r3 r2 r1:Nat,∀c4 c5:LV,T W (Sep.pt r5 c5::Sep.pt r4 c4::Sep.pt r3 (ak zA)::Sep.pt r2 (nm n)::Sep.pt r1 (ak a)::L) (jY.j1 K r1 r3 p r2 (decide (has a.flags 2/\gj a true<n))):=λr5 r4 r3 r2 r1 c4 c5=>by
  unfold jY.j1;refine dX (λh1=>?_) (λh1=>?_)
  ·rw[if_pos (h1)] at h;apply ws;intros;exact T.dp h
  rw[if_neg (h1)] at h;refine bw (λh1=>?_) (λh1=>?_)
  ·rw[if_pos h1] at h;have hx:a.dp+n<aJ:=by omega
   repeat' first|apply ws;intros|apply wb|with_reducible refine zo ha.dp hn ?_|fail
   rw[if_pos hx];exact T.dp h
  ·rw[if_neg (by rw[h1];decide)] at h;have hx:a.dq+n<aJ:=by omega
   repeat' first|apply ws;intros|apply wb|with_reducible refine zo ha.dq hn ?_|fail
   rw[if_pos hx];exact T.dp h
 apply ws;intros;refine bw (λh1=>?_) (λh1=>?_)
 ·have h2:has a.flags 2:=by
   have:=bne_iff_ne.1 h1;rw[ne_eq,Hd hf.1 hf.2,aea] at this;exact this
  repeat' first|apply ws;intros|apply wb|with_reducible first|refine Fa G ha ?_|refine yA ?_|fail
  have e:decide (gj a true<n)=decide (has a.flags 2/\gj a true<n):=by simp[h2]
  rw[e];exact j1 _ _ _ _ _ _ _
 ·have h2: ¬has a.flags 2:=(Hd hf.1 hf.2).1 (bne_eq_false_iff_eq.1 h1);have e:false=decide (has a.flags 2/\gj a true<n):=by simp[h2]
  rw[e];exact j1 _ _ _ _ _ _ _
def Pr(G:pE W)(ha:vn a)(hn:n<aJ)(hf:0<=a.flags/\a.flags<256)(h:T W L (K (.tuple ⟨[.agg ⟨ak (more a false n p).1⟩,.i (more a false n p).2]⟩))):T W L (iV (ak a) (nm n) p K):=by
 unfold iV;apply ws;intros;rename_i r4;refine Tm (l:=[a.cp,a.cq,n]) (by simp;exact⟨ha.cp,ha.cq,hn⟩) (by show 3<1000;decide) ?_;rw[Nc];apply ws;intros;unfold more at h;refine bw (λh1=>?_) (λh1=>?_)
 ·have hh: ¬a.cp+a.cq+n<aJ:=λhh=>by rw[if_pos hh] at h1;cases h1
  rw[if_neg (by decide),if_pos (by omega)] at h;apply ws;intros;exact T.dp h
 have hh:a.cp+a.cq+n<aJ:=by
  by_cases hh:a.cp+a.cq+n<aJ
  ·exact hh
  ·rw[if_neg hh] at h1;cases h1
 rw[if_neg (by decide),if_neg (by omega)] at h;have j1:∀r5 r4 r3 r2 r1:Nat,∀c4 c5:LV,T W (Sep.pt r5 c5::Sep.pt r4 c4::Sep.pt r3 (ak zA)::Sep.pt r2 (nm n)::Sep.pt r1 (ak a)::L) (iV.j1 K r1 r3 p r2 (decide (has a.flags 4/\gj a false<n))):=λr5 r4 r3 r2 r1 c4 c5=>by
  unfold iV.j1;refine dX (λh1=>?_) (λh1=>?_)
  ·rw[if_pos (h1)] at h;apply ws;intros;exact T.dp h
  rw[if_neg (h1)] at h;refine bw (λh1=>?_) (λh1=>?_)
  ·rw[if_pos h1] at h;have hx:a.cp+n<aJ:=by omega
   repeat' first|apply ws;intros|apply wb|with_reducible refine zo ha.cp hn ?_|fail
   rw[if_pos hx];exact T.dp h
  ·rw[if_neg (by rw[h1];decide)] at h;have hx:a.cq+n<aJ:=by omega
   repeat' first|apply ws;intros|apply wb|with_reducible refine zo ha.cq hn ?_|fail
   rw[if_pos hx];exact T.dp h
 apply ws;intros;refine bw (λh1=>?_) (λh1=>?_)
 ·have h2:has a.flags 4:=by
   have:=bne_iff_ne.1 h1;rw[ne_eq,Hc hf.1 hf.2,aea] at this;exact this
  repeat' first|apply ws;intros|apply wb|with_reducible first|refine Fa G ha ?_|refine yA ?_|fail
  have e:decide (gj a false<n)=decide (has a.flags 4/\gj a false<n):=by simp[h2]
  rw[e];exact j1 _ _ _ _ _ _ _
 ·have h2: ¬has a.flags 4:=(Hc hf.1 hf.2).1 (bne_eq_false_iff_eq.1 h1);have e:false=decide (has a.flags 4/\gj a false<n):=by simp[h2]
  rw[e];exact j1 _ _ _ _ _ _ _
end
end Go.Up
namespace Go.Up
open Go.Sep Go.Den Go.RowKit Go.Prog Go.Md Go.bA
section
variable {W:World} {L:LH} {K:VK} {X:WK} {α:Type} {r n c e o j:Nat} {l:List α} {x y:α} {g:α->LV} {f:HP->LH}
def dA{K:LV->WK}[i:o8 (some ⟨r,0,none⟩) n c L e (l.flatMap g) f](hf:∀x,(g x).length=e)(hx:l[o]?=some x)(h:T W L (K (g x))):T W L (ai ⟨r,o* e,none⟩ e K):=λw hs=>by
 obtain⟨k,hk,_⟩:=i.at_;exact z7 hs hk (hf x) (nU hf l o x hx) (h w hs)
def Az{v:Value}[i:o8 (some ⟨r,0,none⟩) n c L e (l.flatMap g) f](hf:∀x,(g x).length=e)(hx:l[o]?=some x)(hv:(g x)[j]?=some v)(h:T W L (K v)):T W L (ld ⟨r,o* e+j,none⟩ K):=λw hs=>by
 obtain⟨k,hk,_⟩:=i.at_;exact vJ hs hk (nU hf l o x hx j v hv) (h w hs)
def vx{v:Value}[i:o8 (some ⟨r,0,none⟩) n c L e (l.flatMap g) f](hf:∀x,(g x).length=e)(hx:l[o]?=some x)(hv:(g x)[0]?=some v)(h:T W L (K v)):T W L (ld ⟨r,o* e,none⟩ K):=Az (j:=0) hf hx hv h
def EI(hf:∀x,(g x).length=e)(ho:o<l.length):o* e+e<=(l.flatMap g).length:=by
 rw[xi hf,<-Nat.succ_mul];exact aeL e ho
def nd[i:o8 (some ⟨r,0,none⟩) n c L e (l.flatMap g) f](hf:∀x,(g x).length=e)(ho:o<l.length)(h1:∀v∈g x,v.oneCell'=true)
 (h:T W (f (own (some ⟨r,0,none⟩) n c e ((l.set o x).flatMap g))) X):T W L (gp ⟨r,o* e,none⟩ (g x) X):=λw hs=>by
 obtain⟨k,hk,e1⟩:=i.at_;refine Qe hs hk (by rw[hf];exact EI hf ho) h1 λw' h'=>h w' ?_;rw[e1,<-BB hf l o x ho];exact h'
def ym{v:Value}(hf:∀x,(g x).length=e)(hx:l[o]?=some x)(hy:g y=(g x).set j v)(hj:j<e):(l.flatMap g).set (o* e+j) v=(l.set o y).flatMap g:=by
 have ho:=(adZ.1 hx).1;have hle:=EI hf ho;rw[<-BB hf l o y ho];apply afg;intro i;rw[wK (by rw[hf];exact hle),aet];by_cases h1:i<o* e
 ·rw[if_pos h1,if_neg (by omega)]
 ·rw[if_neg h1];by_cases h2:i<o* e+(g y).length
  ·rw[if_pos h2,hy,aet];rw[hf] at h2;obtain⟨m,rfl⟩:∃m,i=o* e+m:=⟨i-o* e,by omega⟩;rw[Nat.add_sub_cancel_left];by_cases h3:j=m
   ·subst h3;rw[if_pos rfl,if_pos rfl,if_pos (by omega),if_pos (by rw[hf];omega)]
   ·rw[if_neg (by omega),if_neg h3];have hm:m<(g x).length:=by rw[hf];omega
    rw[adX hm];exact nU hf l o x hx m _ (adX hm)
  ·rw[if_neg h2,if_neg (by rw[hf] at h2;omega)]
def Aw{v:Value}[i:o8 (some ⟨r,0,none⟩) n c L e (l.flatMap g) f](hf:∀x,(g x).length=e)(hx:l[o]?=some x)(hy:g y=(g x).set j v)(hj:j<e)(h1:v.oneCell'=true)
 (h:T W (f (own (some ⟨r,0,none⟩) n c e ((l.set o y).flatMap g))) X):T W L (st ⟨r,o* e+j,none⟩ v X):=λw hs=>by
 obtain⟨k,hk,e1⟩:=i.at_;have ho:=(adZ.1 hx).1;have hle:=EI (g:=g) hf ho;refine xJ hs hk (by omega) h1 λw' h'=>h w' ?_;rw[e1,<-ym hf hx hy hj];exact h'
def D0{bytes:Nat}{zero:LV}{len cap:Int}{K:OA->Nat->Nat->WK}(h0:0<=len/\len<=cap/\cap<=9223372036854775807/\cap* bytes<=281474976710656)
 (hK:∀r,T W (own (some ⟨r,0,none⟩) len.toNat cap.toNat zero.length (Builtin.zeroCells ⟨zero⟩ len.toNat).toList::L) (K (some ⟨r,0,none⟩) len.toNat cap.toNat)):T W L (Gh bytes zero len cap K):=λw hs=>
 NR hs h0 λr w' h'=>hK r w' h'
def nG{z:α}{zs:LV}(hz:g z=zs)(m:Nat):(Builtin.zeroCells ⟨zs⟩ m).toList=(aec m z).flatMap g:=by
 subst hz
 induction m with
 |zero=>simp[Builtin.zeroCells]
 |succ m ih=>
  rw[List.replicate_succ',aeV,<-ih];simp only[Builtin.zeroCells,Array.toList_map,Array.toList_range,aeN,List.flatMap_nil,aei];rw[afl,Nat.one_mul,List.range_add,aeu,afx]
  congr 1
  show(aft (g z).length).map _=g z;apply afg;intro j;rw[aeJ];by_cases hj:j<(g z).length
  ·rw[afq hj,adX hj];show some _=some _
   congr 1
   simp only[Function.comp];show(⟨g z⟩:Array Value)[(m* (g z).length+j)%(g z).length]! =_;rw[afv,Nat.mul_add_mod,aeH hj];simp[hj]
  ·rw[aeZ (by simpa using hj),aeZ (by omega)];rfl
end
structure Cell where
 key:Nat
 at_:Int
 kind:Int
def kn(c:Cell):LV:=nm c.key++[.i c.at_,.int .u8 c.kind]
def oQ(c:Cell):(kn c).length=4:=rfl
instance{c:Cell}:Ln (kn c) 4:=⟨rfl⟩
instance{c:Cell}:Gt (kn c) 3 (.int .u8 c.kind):=⟨rfl⟩
def uU(c:Cell):∀v∈kn c,v.oneCell'=true:=lh (kC _) λv h=>by simp at h;rcases h with rfl|rfl<;>rfl
def Jo(n1 n2:Int):Int:=IntKind.u64.wrap ((bC .u64 .xor (bC .u64 .xor n1 (shl .u64 n2 31)) (shr .u64 n2 33))* 11400714819323198485)
def Jn(x:Int):Int:=bC .u64 .xor x (shr .u64 x 29)
def spread(k:Nat):Int:=Jn (Jo ((k%18446744073709551616:Nat):Int) ((k/18446744073709551616:Nat):Int))
def Pow(N:Nat):Prop:=∃j,3<=j/\j<=20/\N=2^j
def Pow.ge{N:Nat}(h:Pow N):8<=N:=by
 obtain⟨j,h1,h2,rfl⟩:=h;exact aeP (by decide) h1 (n:=2)
def Pow.le{N:Nat}(h:Pow N):N<=1048576:=by
 obtain⟨j,h1,h2,rfl⟩:=h;exact aeP (by decide) h2 (n:=2)
def Hh{N x:Nat}(h:Pow N)(hx:x<18446744073709551616):bC .u64 .and (x:Int) ((N:Int) -1)=((x%N:Nat):Int):=by
 have h1:=h.ge;have h2:=h.le;obtain⟨j,-,-,rfl⟩:=h;have e:((2^j:Nat):Int) -1=((2^j-1:Nat):Int):=by omega
 rw[e];unfold bC;show IntKind.u64.wrap (((BitVec.ofInt 64 (x:Int)&&&BitVec.ofInt 64 ((2^j-1:Nat):Int)).toNat:Nat):Int)=_;rw[BitVec.toNat_and];have t1:(BitVec.ofInt 64 (x:Int)).toNat=x:=by simp only[BitVec.toNat_ofInt];omega
 have t2:(BitVec.ofInt 64 ((2^j-1:Nat):Int)).toNat=2^j-1:=by simp only[BitVec.toNat_ofInt];omega
 rw[t1,t2,Nat.and_two_pow_sub_one_eq_mod];have:x%2^j<=x:=Nat.mod_le _ _;exact oC (by omega)
def NX(op:BinOp)(x y:Int)(h:op=.and\/op=.or\/op=.xor\/op=.andNot):0<=bC .u64 op x y/\bC .u64 op x y<18446744073709551616:=by
 rcases h with h|h|h|h<;>subst h<;>(unfold bC;dsimp only;simp only[IntKind.wrap,IntKind.bits,IntKind.signed];simp;omega)
def hh(N k:Nat):Nat:=(spread k).toNat%N
def X3{N:Nat}(h:0<N)(k:Nat):hh N k<N:=Nat.mod_lt _ h
def HS(k:Nat):0<=spread k/\spread k<18446744073709551616:=by
 unfold spread;generalize Jo _ _=x;unfold Jn;generalize shr .u64 x 29=y;exact NX .xor x y (by simp)
def HT{N k:Nat}(h:Pow N):bC .u64 .and (spread k) ((N:Int) -1)=((hh N k:Nat):Int):=by
 obtain⟨h1,h2⟩:=HS k;unfold hh;generalize spread k=x at h1 h2;obtain⟨n,rfl⟩:∃n:Nat,x=n:=⟨x.toNat,by omega⟩;rw[adY];exact Hh h (by omega)
def NF(cs:List Cell)(i:Nat):Prop:=∃c:Cell,cs[i]?=some c/\c.kind≠0
structure TI(cs:List Cell)(m:Nat->Option Int)(u lf:Nat):Prop where
 pow:Pow cs.length
 kinds:∀c∈cs,c.kind=0\/c.kind=1\/c.kind=2
 used:cs.countP (λc:Cell=>c.kind=1)=u
 left:cs.countP (λc:Cell=>c.kind=2)=lf
 room:4* (u+lf)<=3* cs.length
 run:∀(i:Nat)(c:Cell),cs[i]?=some c->c.kind=1->∃d,d<cs.length/\i=(hh cs.length c.key+d)%cs.length/\∀j,j<d->NF cs ((hh cs.length c.key+j)%cs.length)
 is:∀(i:Nat)(c:Cell),cs[i]?=some c->c.kind=1->m c.key=some c.at_
 has:∀k v,m k=some v->∃(i:Nat)(c:Cell),cs[i]?=some c/\c.kind=1/\c.key=k
 one:∀(i j:Nat)(c d:Cell),cs[i]?=some c->cs[j]?=some d->c.kind=1->d.kind=1->c.key=d.key->i=j
def OG:∀(cs:List Cell),(∀c∈cs,c.kind=0\/c.kind=1\/c.kind=2)->cs.countP (λc:Cell=>c.kind=0)+cs.countP (λc:Cell=>c.kind=1)+cs.countP (λc:Cell=>c.kind=2)=cs.length
 |[],_=>rfl
 |c::cs,h=>by
  have ih:=OG cs λd hd=>h d (by simp[hd]);simp only[List.countP_cons,aee];rcases h c (by simp) with e|e|e<;>simp[e]<;>omega
def countP_set{p:Cell->Bool}:∀(cs:List Cell)(i:Nat)(c x:Cell),cs[i]?=some c->(cs.set i x).countP p+(if p c then 1 else 0)=cs.countP p+(if p x then 1 else 0)
 |[],i,c,x,h=>by simp at h
 |d::cs,0,c,x,h=>by
  simp at h;subst h;simp only[List.set_cons_zero,List.countP_cons];omega
 |d::cs,i+1,c,x,h=>by
  have ih:=countP_set (p:=p) cs i c x (by simpa using h);simp only[afc,List.countP_cons];omega
def TI.free{cs:List Cell}{m:Nat->Option Int}{u lf:Nat}(h:TI cs m u lf)(s:Nat)(ha:∀j,j<cs.length->NF cs ((s+j)%cs.length)):False:=by
 have h8:=h.pow.ge;have hc:=OG cs h.kinds;rw[h.used,h.left] at hc;have h0:0<cs.countP (λc:Cell=>c.kind=0):=by have:=h.room;omega
 rw[List.countP_pos_iff] at h0;obtain⟨c,hm,hk⟩:=h0;obtain⟨i,hi⟩:=aff hm;have aZ:=(adZ.1 hi).1;have e:(s+(i+cs.length-s%cs.length)%cs.length)%cs.length=i:=by
  have h1:s%cs.length<cs.length:=Nat.mod_lt _ (by omega);rw[Nat.add_mod_mod,Nat.add_mod,];have:s+(i+cs.length-s%cs.length)=cs.length* (s/cs.length+1)+i:=by
   have:=Nat.div_add_mod s cs.length;rw[Nat.mul_add];omega
  rw[<-Nat.add_mod,this,Nat.mul_add_mod,aeH aZ]
 obtain⟨d,hd,hn⟩:=ha ((i+cs.length-s%cs.length)%cs.length) (Nat.mod_lt _ (by omega));rw[e,hi] at hd;cases hd
 simp at hk;exact hn hk
structure FR(cs:List Cell)(k p:Nat):Prop where
 place:∃(c:Cell)(d:Nat),cs[p]?=some c/\c.kind≠1/\d<cs.length/\p=(hh cs.length k+d)%cs.length/\∀j,j<d->NF cs ((hh cs.length k+j)%cs.length)
 none_:∀(i:Nat)(c:Cell),cs[i]?=some c->c.kind=1->c.key≠k
def sr(m:Nat->Option Int)(k:Nat)(v:Option Int):Nat->Option Int:=λj=>if j=k then v else m j
def NF.set{cs:List Cell}{i p:Nat}{x:Cell}(h:NF cs i)(hx:x.kind≠0):NF (cs.set p x) i:=by
 obtain⟨c,hc,hk⟩:=h;have aZ:=(adZ.1 hc).1;unfold NF;rw[aet];by_cases e:p=i
 ·rw[if_pos e,if_pos (by omega)];exact⟨x,rfl,hx⟩
 ·rw[if_neg e];exact⟨c,hc,hk⟩
def TI.yx{cs:List Cell}{m:Nat->Option Int}{u lf k:Nat}(h:TI cs m u lf)(hn:∀(i:Nat)(c:Cell),cs[i]?=some c->c.kind=1->c.key≠k):m k=none:=by
 cases hm:m k with
 |none=>rfl
 |some v=>
  obtain⟨i,c,h1,h2,h3⟩:=h.has k v hm;exact absurd h3 (hn i c h1 h2)
def qX{cs:List Cell}{p i:Nat}{x c:Cell}(h:(cs.set p x)[i]?=some c):(i=p/\c=x/\p<cs.length)\/(i≠p/\cs[i]?=some c):=by
 rw[aet] at h;by_cases e:p=i
 ·rw[if_pos e] at h;by_cases hl:p<cs.length
  ·rw[if_pos (by omega)] at h;cases h;exact .inl ⟨e.symm,rfl,hl⟩
  ·rw[if_neg (by omega)] at h;cases h
 ·rw[if_neg e] at h;exact .inr ⟨λh=>e h.symm,h⟩
def TI.put{cs:List Cell}{m:Nat->Option Int}{u lf k p:Nat}{v:Int}{c:Cell}(h:TI cs m u lf)(f:FR cs k p)(hp:cs[p]?=some c)(hr:4* (u+lf+1)<=3* cs.length):
 TI (cs.set p ⟨k,v,1⟩) (sr m k (some v)) (u+1) (if c.kind=2 then lf-1 else lf):=by
 obtain⟨⟨c',d,GK,hk,hd,hpd,hj⟩,kR⟩:=f;rw[hp] at GK;cases GK
 have aZ:=(adZ.1 hp).1;have hl:(cs.set p ⟨k,v,1⟩).length=cs.length:=ae2;have c1:=countP_set (p:=λc:Cell=>c.kind=1) cs p c ⟨k,v,1⟩ hp;have c2:=countP_set (p:=λc:Cell=>c.kind=2) cs p c ⟨k,v,1⟩ hp;have mu:c∈cs:=aep hp;have hnk:=h.yx kR;rw[h.used] at c1;rw[h.left] at c2;refine⟨by rw[hl];exact h.pow,?_,?_,?_,?_,?_,?_,?_,?_⟩
 ·intro x hx;rcases aeC hx with hx|hx
  ·exact h.kinds x hx
  ·subst hx;exact .inr (.inl rfl)
 ·simp[hk] at c1;simpa using c1
 ·by_cases e:c.kind=2
  ·rw[if_pos e];simp[e] at c2;simpa using by omega
  ·rw[if_neg e];simp[e] at c2;simpa using c2
 ·rw[hl];split<;>omega
 ·rw[hl];intro i x hi hx;rcases qX hi with⟨rfl,rfl,_⟩|⟨gU,hi⟩
  ·exact⟨d,hd,hpd,λj h1=>(hj j h1).set (show(1:Int)≠0 by decide)⟩
  ·obtain⟨d',h1,h2,h3⟩:=h.run i x hi hx;exact⟨d',h1,h2,λj h4=>(h3 j h4).set (show(1:Int)≠0 by decide)⟩
 ·intro i x hi hx;rcases qX hi with⟨rfl,rfl,_⟩|⟨gU,hi⟩
  ·simp[sr]
  ·unfold sr;rw[if_neg (kR i x hi hx)];exact h.is i x hi hx
 ·intro k' v' yh;unfold sr at yh;by_cases e:k'=k
  ·subst e;exact⟨p,⟨k',v,1⟩,by rw[aet,if_pos rfl,if_pos aZ],rfl,rfl⟩
  ·rw[if_neg e] at yh;obtain⟨i,x,h1,h2,h3⟩:=h.has k' v' yh;refine⟨i,x,?_,h2,h3⟩;rw[aet,if_neg]
   ·exact h1
   ·intro e2;subst e2;rw[hp] at h1;cases h1;exact hk h2
 ·intro i j x y hi HA hx hy he;rcases qX hi with⟨rfl,rfl,_⟩|⟨gU,hi⟩<;>rcases qX HA with⟨rfl,rfl,_⟩|⟨aaD,HA⟩
  ·rfl
  ·exact absurd he.symm (kR j y HA hy)
  ·exact absurd he (kR i x (by assumption) hx)
  ·exact h.one i j x y (by assumption) (by assumption) hx hy he
def TI.drop{cs:List Cell}{m:Nat->Option Int}{u lf p:Nat}{c:Cell}(h:TI cs m u lf)(hp:cs[p]?=some c)(hk:c.kind=1):
 TI (cs.set p ⟨0,0,2⟩) (sr m c.key none) (u-1) (lf+1)/\1<=u:=by
 have aZ:=(adZ.1 hp).1;have hl:(cs.set p ⟨0,0,2⟩).length=cs.length:=ae2;have c1:=countP_set (p:=λc:Cell=>c.kind=1) cs p c ⟨0,0,2⟩ hp;have c2:=countP_set (p:=λc:Cell=>c.kind=2) cs p c ⟨0,0,2⟩ hp;rw[h.used] at c1;rw[h.left] at c2;have hu:1<=u:=by simp[hk] at c1;omega
 refine⟨⟨by rw[hl];exact h.pow,?_,?_,?_,by rw[hl];have:=h.room;omega,?_,?_,?_,?_⟩,hu⟩
 ·intro x hx;rcases aeC hx with hx|hx
  ·exact h.kinds x hx
  ·subst hx;exact .inr (.inr rfl)
 ·simp[hk] at c1;simpa using by omega
 ·simp[hk] at c2;simpa using c2
 ·rw[hl];intro i x hi hx;rcases qX hi with⟨rfl,rfl,_⟩|⟨gU,hi⟩
  ·exact absurd hx (by decide)
  ·obtain⟨d',h1,h2,h3⟩:=h.run i x hi hx;exact⟨d',h1,h2,λj h4=>(h3 j h4).set (by decide)⟩
 ·intro i x hi hx;rcases qX hi with⟨rfl,rfl,_⟩|⟨gU,hi⟩
  ·exact absurd hx (by decide)
  ·have:x.key≠c.key:=λe=>gU (h.one i p x c hi hp hx hk e);unfold sr;rw[if_neg this];exact h.is i x hi hx
 ·intro k' v' yh;unfold sr at yh;by_cases e:k'=c.key
  ·rw[if_pos e] at yh;cases yh
  ·rw[if_neg e] at yh;obtain⟨i,x,h1,h2,h3⟩:=h.has k' v' yh;refine⟨i,x,?_,h2,h3⟩;rw[aet,if_neg]
   ·exact h1
   ·intro e2;subst e2;rw[hp] at h1;cases h1;exact e h3.symm
 ·intro i j x y hi HA hx hy he;rcases qX hi with⟨rfl,rfl,_⟩|⟨gU,hi⟩<;>rcases qX HA with⟨rfl,rfl,_⟩|⟨aaD,HA⟩
  ·rfl
  ·exact absurd hx (by decide)
  ·exact absurd hy (by decide)
  ·exact h.one i j x y (by assumption) (by assumption) hx hy he
def TI.new{N:Nat}(h:Pow N):TI (aec N ⟨0,0,0⟩) (λ_=>none) 0 0:=by
 refine⟨by rw[ae4];exact h,?_,?_,?_,by omega,?_,?_,?_,?_⟩
 ·intro c hc;rw[List.eq_of_mem_replicate hc];exact .inl rfl
 ·rw[List.countP_replicate];rfl
 ·rw[List.countP_replicate];rfl
 ·intro i c hi hk;have:=List.eq_of_mem_replicate (aep hi);subst this;exact absurd hk (by decide)
 ·intro i c hi hk;have:=List.eq_of_mem_replicate (aep hi);subst this;exact absurd hk (by decide)
 ·intro k v hk;cases hk
 ·intro i j c d hi hj hk;have:=List.eq_of_mem_replicate (aep hi);subst this;exact absurd hk (by decide)
def Seen(cs:List Cell)(k d:Nat):Prop:=∀j,j<d->∃c:Cell,cs[(hh cs.length k+j)%cs.length]?=some c/\c.kind≠0/\ ¬(c.kind=1/\c.key=k)
def Seen.nf{cs:List Cell}{k d:Nat}(h:Seen cs k d):∀j,j<d->NF cs ((hh cs.length k+j)%cs.length):=λj hj=>by
 obtain⟨c,h1,h2,_⟩:=h j hj;exact⟨c,h1,h2⟩
def Seen.succ{cs:List Cell}{k d:Nat}{c:Cell}(h:Seen cs k d)(hc:cs[(hh cs.length k+d)%cs.length]?=some c)(h0:c.kind≠0)(h1: ¬(c.kind=1/\c.key=k)):Seen cs k (d+1):=λj hj=>by
 by_cases e:j=d
 ·subst e;exact⟨c,hc,h0,h1⟩
 ·exact h j (by omega)
def Seen.yx{cs:List Cell}{m:Nat->Option Int}{u lf k d:Nat}{c:Cell}(ht:TI cs m u lf)(h:Seen cs k d)(hd:d<cs.length)(hc:cs[(hh cs.length k+d)%cs.length]?=some c)(h0:c.kind=0):
 ∀(i:Nat)(c:Cell),cs[i]?=some c->c.kind=1->c.key≠k:=by
 intro i x hi hx he;obtain⟨d',h1,h2,h3⟩:=ht.run i x hi hx;rw[he] at h2 h3;by_cases e1:d'<d
 ·obtain⟨y,g1,g2,g3⟩:=h d' e1;rw[<-h2,hi] at g1;cases g1;exact g3 ⟨hx,he⟩
 ·by_cases e2:d<d'
  ·obtain⟨y,g1,g2⟩:=h3 d e2;rw[hc] at g1;cases g1;exact g2 h0
  ·have:d=d':=by omega
   subst this;rw[<-h2,hi] at hc;cases hc;rw[h0] at hx;cases hx
section
variable {y z:Cell} {x1 x2 x3 x4:Value}
instance:Wr [x1,x2,x3,x4] 0 (kn y) (kn y):=⟨rfl,ad4 _,uU y⟩
instance:Sub (kn y) 0 2 (nm y.key):=⟨uZ rfl rfl⟩
instance:Sub (kn y) 0 4 (kn y):=⟨rfl,λj v h=>by rw[ad1];exact h⟩
end
def lz(t:Nat)(x:(Nat->Option Int)×Nat):HP:=
 Te λq:OA×Nat×List Cell×Nat=>L7 (TI q.2.2.1 x.1 x.2 q.2.2.2) (sep (Sep.pt t [.l q.1 q.2.2.1.length q.2.1,.i (x.2:Int),.i (q.2.2.2:Int)]) (own q.1 q.2.2.1.length q.2.1 4 (q.2.2.1.flatMap kn)))
section
variable {W:World} {L:LH} {K:VK} {X:WK} {t:Nat} {x:(Nat->Option Int)×Nat} {f:(Nat->Option Int)×Nat->LH}
def MT[i:Lc (lz t) L x f](h:∀b c cs lf R,TI cs x.1 x.2 lf->(∀b' c' rB u' Hv m' Y,TI rB m' u' Hv->T W (f (m',u')) Y->T W (Sep.pt t [.l b' rB.length c',.i (u':Int),.i (Hv:Int)]::own b' rB.length c' 4 (rB.flatMap kn)::R) Y)->
 T W (Sep.pt t [.l b cs.length c,.i (x.2:Int),.i (lf:Int)]::own b cs.length c 4 (cs.flatMap kn)::R) X):T W L X:=
 MV (P:=lz t) λR hc w hs=>by
  obtain⟨⟨b,c,cs,lf⟩,hs⟩:=hs.ex;obtain⟨ht,hs⟩:=hs.and;refine h b c cs lf R ht (λb' c' rB u' Hv m' Y Gv hy w h'=>hc (m',u') Y hy w ?_) w hs.split;exact St.nV (b',c',rB,Hv) (St.and_intro Gv (St.join h'))
def T.aan{A B C:HP}{R:LH}(h:T W (A::B::C::R) X):T W (C::A::B::R) X:=T.perm h (ae' (l₁:=[A,B])).symm
def Nh{k:Nat}(h:T W L (K (.u (spread k)))):T W L (pS (nm k) K):=by
 unfold pS
 repeat' first|apply ws;intros|apply wb|with_reducible refine cL (by decide) ?_|fail
 refine T.fin (T.dp h) ?_
 rfl
def TA{N:Nat}(h1:1<=N)(h2:N<=1048576):IntKind.u64.wrap (adU.wrap ((N:Int) -1))=(N:Int) -1:=by
 rw[ar (by omega)];obtain⟨n,hn⟩:∃n:Nat,(N:Int) -1=n:=⟨N-1,by omega⟩;rw[hn];exact oC (by omega)
def CT{N a d:Nat}(ha:a<N)(hd:d<N):((a+d)%N+N-a)%N=d:=by
 by_cases h:a+d<N
 ·rw[aeH h,show a+d+N-a=N+d by omega,Nat.add_mod_left,aeH hd]
 ·have:(a+d)%N=a+d-N:=by rw[Nat.mod_eq_sub_mod (by omega),aeH (by omega)]
  rw[this,show a+d-N+N-a=d by omega,aeH hd]
def Ng{N a d:Nat}(hN:Pow N):bC .u64 .and (IntKind.u64.wrap ((((a+d)%N:Nat):Int)+1)) ((N:Int) -1)=(((a+(d+1))%N:Nat):Int):=by
 have h1:=hN.le;have h2:=hN.ge;have h3:(a+d)%N<N:=Nat.mod_lt _ (by omega);rw[show(((a+d)%N:Nat):Int)+1=(((a+d)%N+1:Nat):Int) by omega,oC (by omega),Hh hN (by omega)]
 congr 1
 rw[Nat.mod_add_mod];rfl
def EJ{b:OA}{c u lf k:Nat}{cs:List Cell}{m:Nat->Option Int}{x1 x2:Value}{f:LV->LH}{g:HP->LH}[i:Lc (Sep.pt t) L [.l b cs.length c,x1,x2] f][j:o8 b cs.length c L 4 (cs.flatMap kn) g](ht:TI cs m u lf)
 (h1:∀(i:Nat)(y:Cell),cs[i]?=some y->y.kind=1->y.key=k->T W L (K (.tuple ⟨[.i (i:Int),.bool true]⟩)))
 (h2:∀p:Nat,FR cs k p->T W L (K (.tuple ⟨[.i (p:Int),.bool false]⟩))):T W L (bG (some ⟨t,0,none⟩) (nm k) K):=by
 have hN8:=ht.pow.ge;have hNl:=ht.pow.le;have hhl:=X3 (N:=cs.length) (by omega) k;unfold bG
 repeat' first|apply ws;intros|apply wb|with_reducible refine Nh ?_|fail
 rename_i r1;intro w hs;rw[TA (by omega) hNl,HT ht.pow];refine⟨λvs w=>∃(d:Nat)(put:Int),d<cs.length/\Seen cs k d/\(put= -1\/∃(dp:Nat)(z:Cell),dp<d/\put=(((hh cs.length k+dp)%cs.length:Nat):Int)/\cs[(hh cs.length k+dp)%cs.length]?=some z/\z.kind=2)/\
                           vs=[.p (some (ad r1 0)),.i 0,.bool false,.u ((cs.length:Int) -1),.i put,.u (((hh cs.length k+d)%cs.length:Nat):Int)]/\St W w (Sep.pt r1 (nm k)::L),
  λvs _=>match vs with|[_,_,_,_,_,.int _ n]=>cs.length-(n.toNat+cs.length-hh cs.length k)%cs.length|_=>0,
  ⟨0,-1,by omega,λj hj=>by omega,.inl rfl,by rw[aeT,aeH hhl],hs⟩,?_⟩
 rintro a1 n1 b1 n2 put n4 w2 ⟨d,adA,hd,Gw,Lm,e,hs⟩;cases e
 refine T.at ?_ hs;have aZ:(hh cs.length k+d)%cs.length<cs.length:=Nat.mod_lt _ (by omega);have hy:=adX aZ;generalize cs[(hh cs.length k+d)%cs.length]=y at hy;have mu:y∈cs:=aep hy;have ewr:adU.wrap (((hh cs.length k+d)%cs.length:Nat):Int)=(((hh cs.length k+d)%cs.length:Nat):Int):=ar (by omega);apply ws;intros;refine bR ⟨by omega,by omega⟩ λr hr=>?_;subst hr;rw[adY];refine dA oQ hy ?_;have next:∀(r2:Nat)(Nx:Int),y.kind≠0-> ¬(y.kind=1/\y.key=k)->(Nx=put\/Nx=(((hh cs.length k+d)%cs.length:Nat):Int)/\y.kind=2)->
                                                                                                                                                                                                                                                                                                                                                                           T W (Sep.pt r2 (kn y)::Sep.pt r1 (nm k)::L) (λw4=>(∃(d':Nat)(put:Int),d'<cs.length/\Seen cs k d'/\(put= -1\/∃(dp:Nat)(z:Cell),dp<d'/\put=(((hh cs.length k+dp)%cs.length:Nat):Int)/\cs[(hh cs.length k+dp)%cs.length]?=some z/\z.kind=2)/\
                                                                                                                                                                                                                                                                                                                                                                           [Value.pointer (some (ad r1 0)),.i 0,.bool false,.u ((cs.length:Int) -1),.i Nx,.u (((hh cs.length k+(d+1))%cs.length:Nat):Int)]=[.p (some (ad r1 0)),.i 0,.bool false,.u ((cs.length:Int) -1),.i put,.u (((hh cs.length k+d')%cs.length:Nat):Int)]/\St W w4 (Sep.pt r1 (nm k)::L))/\
                                                                                                                                                                                                                                                                                                                                                                           cs.length-((((hh cs.length k+(d+1))%cs.length:Nat):Int).toNat+cs.length-hh cs.length k)%cs.length<cs.length-((((hh cs.length k+d)%cs.length:Nat):Int).toNat+cs.length-hh cs.length k)%cs.length):=by
  intro r2 Nx k0 k1 hp';have NZ:=Gw.succ hy k0 k1;have S6:d+1<cs.length:=by
   by_cases hc:d+1<cs.length
   ·exact hc
   ·exact absurd (λj hj=>NZ.nf j (by omega)) λhh=>ht.free _ hh
  refine T.drop λw3 h3=>⟨⟨d+1,Nx,S6,NZ,?_,rfl,h3⟩,?_⟩
  ·rcases hp' with rfl|⟨rfl,h2k⟩
   ·exact Lm.imp id λ⟨dp,z,g1,g2,g3,g4⟩=>⟨dp,z,by omega,g2,g3,g4⟩
   ·exact .inr ⟨d,y,by omega,rfl,hy,h2k⟩
  ·rw[adY,adY,CT hhl hd,CT hhl S6];omega
 apply ws;intros;rename_i r2;unfold bG.j1 bG.j2 bG.j3;simp only[Ng ht.pow,ewr];refine bw (λg0=>?_) (λg0=>?_)
 ·have k0:y.kind=0:=by simpa using g0
  refine bw (λg1=>?_) (λg1=>?_)
  ·refine T.drop (T.drop (h2 _ ⟨⟨y,d,hy,by omega,hd,rfl,Gw.nf⟩,Gw.yx ht hd hy k0⟩))
  ·have g2: ¬put<0:=by simpa using g1
   apply ws;intros;refine jN (by simpa using k0) ?_;rcases Lm with rfl|⟨dp,z,q1,rfl,q3,q4⟩
   ·omega
   ·refine T.drop (T.drop (h2 _ ⟨⟨z,dp,q3,by omega,by omega,rfl,λj hj=>Gw.nf j (by omega)⟩,Gw.yx ht hd hy k0⟩))
 ·have k0:y.kind≠0:=by simpa using g0
  apply ws;intros;refine dO (by simpa using k0) ?_;apply ws;intros;refine bw (λg1=>?_) (λg1=>?_)
  ·have k2:y.kind=2:=by simpa using g1
   refine bw (λg2=>?_) (λg2=>?_)
   ·exact next r2 _ k0 (by omega) (.inr ⟨rfl,k2⟩)
   ·apply ws;intros;refine dO (by rw[k2];rfl) ?_;apply ws;intros;exact next r2 put k0 (by omega) (.inl rfl)
  ·have k1:y.kind=1:=by
    have:=ht.kinds y mu;have:y.kind≠2:=by simpa using g1
    omega
   apply ws;intros;refine jN (by rw[k1];rfl) ?_;apply ws;intros;refine bw (λg2=>?_) (λg2=>?_)
   ·refine T.drop (T.drop (h1 _ y hy k1 (by simpa using g2)))
   ·exact next r2 put k0 (λhh=>by simp[hh.2] at g2) (.inl rfl)
def zm{k:Nat}[i:Lc (lz t) L x f](h:T W L (K (.tuple ⟨[.i ((x.1 k).getD 0),.bool (x.1 k).isSome]⟩))):T W L (ef (some ⟨t,0,none⟩) (nm k) K):=by
 unfold ef;refine qL λr1=>dO rfl ?_;apply ws;intros;refine MT (t:=t) λb c cs lf R ht hc=>?_;have close:=hc b c cs x.2 lf x.1;have hL:f (x.1,x.2)=L:=i.same;rw[<-hL] at h;refine EJ ht (λi y hy hk he=>?_) (λp hp=>?_)
 ·apply ws;intros;have aZ:=(adZ.1 hy).1;refine bR ⟨by omega,by omega⟩ λr hr=>?_;subst hr;rw[adY];refine MZ ?_;refine Az (r:=r) (j:=2) oQ hy rfl ?_;apply ws;intros;have e:=ht.is i y hy hk;rw[he] at e;rw[e] at h;exact close _ ht (T.drop h)
 ·apply ws;intros;rw[ht.yx hp.none_] at h;exact close _ ht (T.drop h)
def Pq{k:Nat}[i:Lc (lz t) L x f](hu:x.2<=1000)(h:(x.1 k).isSome=true->T W (f (sr x.1 k none,x.2-1)) (K (.bool true)))(h0:x.1 k=none->T W L (K (.bool false))):T W L (kA (some ⟨t,0,none⟩) (nm k) K):=by
 unfold kA;refine qL λr1=>dO rfl ?_;apply ws;intros;refine MT (t:=t) λb c cs lf R ht hc=>?_;have hL:f (x.1,x.2)=L:=i.same;rw[<-hL] at h0;refine EJ ht (λi y hy hk he=>?_) (λp hp=>?_)
 ·apply ws;intros;have aZ:=(adZ.1 hy).1;refine bR ⟨by omega,by omega⟩ λr hr=>?_;subst hr;rw[adY];have hN:=ht.pow.le;have yX:=ht.room;obtain⟨Gv,hu1⟩:=ht.drop hy hk;rw[he] at Gv;have e:=ht.is i y hy hk;rw[he] at e;refine cL rfl ?_;show T W _ (gp _ (kn ⟨0,0,2⟩) _);refine nd oQ aZ (uU _) ?_;apply ws;intros;rw[ar (by omega),ar (by omega),show(x.2:Int) -1=((x.2-1:Nat):Int) by omega,show(lf:Int)+1=((lf+1:Nat):Int) by omega];have:=hc (some ⟨r,0,none⟩) c _ _ _ _ _ Gv (T.drop (h (by rw[e];rfl)));rw[ae2] at this;exact this
 ·apply ws;intros;exact hc _ _ _ _ _ _ _ ht (T.drop (h0 (ht.yx hp.none_)))
structure Part(cs:List Cell)(i:Nat)(m':Nat->Option Int)(u':Nat):Prop where
 to:∀(k:Nat)(v:Int),m' k=some v->∃(j:Nat)(y:Cell),j<i/\cs[j]?=some y/\y.kind=1/\y.key=k/\y.at_=v
 from_:∀(j:Nat)(y:Cell),j<i->cs[j]?=some y->y.kind=1->m' y.key=some y.at_
 n:u'=(cs.take i).countP (λc:Cell=>c.kind=1)
def Part.same{cs:List Cell}{m m':Nat->Option Int}{u lf u':Nat}(ht:TI cs m u lf)(hp:Part cs cs.length m' u'):m'=m/\u'=u:=by
 constructor
 ·funext k
  cases hm:m' k with
  |some v=>
   obtain⟨j,y,h1,h2,h3,h4,h5⟩:=hp.to k v hm;have:=ht.is j y h2 h3;rw[h4,h5] at this;exact this.symm
  |none=>
   cases hk:m k with
   |none=>rfl
   |some v=>
    obtain⟨j,y,h2,h3,h4⟩:=ht.has k v hk;have:=hp.from_ j y (adZ.1 h2).1 h2 h3;rw[h4,hm] at this;cases this
 ·rw[hp.n,ad',ht.used]
def tM(cs:List Cell)(p:Cell->Bool){i:Nat}{y:Cell}(hy:cs[i]?=some y):(cs.take (i+1)).countP p=(cs.take i).countP p+(if p y then 1 else 0):=by
 have aZ:=(adZ.1 hy).1;rw[aeS aZ,List.countP_append];have:cs[i]=y:=by rw[adX aZ] at hy;exact aeh.inj hy
 rw[this,List.countP_singleton]
def U'{b:OA}{c u lf:Nat}{cs:List Cell}{m:Nat->Option Int}{R:LH}(ht:TI cs m u lf)(hu:u<=1000)
 (h:∀b' c' rB,TI rB m u 0->3* (u+1)<=rB.length->T W (Sep.pt t [.l b' rB.length c',.i (u:Int),.i 0]::own b' rB.length c' 4 (rB.flatMap kn)::R) (K (.tuple ⟨[]⟩))):
 T W (Sep.pt t [.l b cs.length c,.i (u:Int),.i (lf:Int)]::own b cs.length c 4 (cs.flatMap kn)::R) (mD (some ⟨t,0,none⟩) K):=by
 unfold mD;have hN8:=ht.pow.ge;have hNl:=ht.pow.le;apply ws;intros;intro w hs;refine⟨λvs w=>∃n:Nat,Pow n/\n<=6* (u+1)+8/\vs=[.l b cs.length c,.i (n:Int)]/\St W w (Sep.pt t [.l b cs.length c,.i (u:Int),.i (lf:Int)]::own b cs.length c 4 (cs.flatMap kn)::R),
  λvs _=>match vs with|[_,.int _ n]=>3* (u+1) -n.toNat|_=>0,⟨8,⟨3,by decide,by decide,rfl⟩,by omega,rfl,hs⟩,?_⟩
 rintro uG pY uF n1 w2 ⟨n,hn,hnb,e,hs⟩;cases e
 refine T.at ?_ hs;have hn8:=hn.ge;apply ws;intros;rw[ar (show-9223372036854775808<=(u:Int)+1/\(u:Int)+1<=9223372036854775807 by omega),ar (by omega)];refine dX (λh1=>?_) (λh1=>?_)
 ·have h1:(n:Int)<3* ((u:Int)+1):=h1;rw[ar (by omega)];refine λw3 h3=>⟨⟨n* 2,?_,by omega,by rw[show(n:Int)* 2=((n* 2:Nat):Int) by omega],h3⟩,?_⟩
  ·obtain⟨j,j1,j2,j3⟩:=hn;refine⟨j+1,by omega,?_,by rw[Nat.pow_succ,j3]⟩;by_cases hj:j+1<=20
   ·exact hj
   ·have:j=20:=by omega
    subst this;have:n=1048576:=by rw[j3]
    omega
  ·show 3* (u+1) -((n:Int)* 2).toNat<3* (u+1) -(n:Int).toNat;omega
 have h1: ¬(n:Int)<3* ((u:Int)+1):=h1;refine D0 ⟨by omega,by omega,by omega,by omega⟩ λr=>?_;rw[adY,nG (g:=kn) (z:=⟨0,0,0⟩) (zs:=[.u 0,.u 0,.i 0,.int .u8 0]) rfl];show T W (own (some ⟨r,0,none⟩) n n 4 ((aec n (⟨0,0,0⟩:Cell)).flatMap kn)::_) _;apply ws;intros;intro w4 hs;refine⟨λvs w=>∃(i:Nat)(rB:List Cell)(m':Nat->Option Int)(u':Nat),i<=cs.length/\rB.length=n/\TI rB m' u' 0/\Part cs i m' u'/\vs=[.l b cs.length c,.i (cs.length:Int),.i (i:Int)]/\
                                                                                                St W w (own (some ⟨r,0,none⟩) n n 4 (rB.flatMap kn)::Sep.pt t [.l (some ⟨r,0,none⟩) n n,.i (u:Int),.i 0]::own b cs.length c 4 (cs.flatMap kn)::R),
  λvs _=>match vs with|[_,_,.int _ i]=>cs.length-i.toNat|_=>0,
  ⟨0,aec n ⟨0,0,0⟩,λ_=>none,0,by omega,ae4,TI.new hn,⟨(λk v hh=>by cases hh),(λj y hj=>by omega),by simp⟩,rfl,hs⟩,?_⟩
 rintro zt yJ yK n3 n4 w5 ⟨i,rB,m',u',hi,Hz,Gv,hp,e,hs⟩;cases e
 refine T.at ?_ hs;refine dX (λg1=>?_) (λg1=>?_)
 ·have aZ:i<cs.length:=by omega
  have e5:=mh i;have hy:=adX aZ;generalize cs[i]=y at hy;have hut:u'+(if y.kind=1 then 1 else 0)<=u:=by
   have e1:=tM cs (λc:Cell=>c.kind=1) hy;have e2:(cs.take (i+1)).countP (λc:Cell=>c.kind=1)<=cs.countP (λc:Cell=>c.kind=1):=(List.take_sublist _ _).countP_le;rw[ht.used,e1,<-hp.n] at e2;simpa using e2
  refine bR ⟨by omega,by omega⟩ λrb Ux=>?_;subst Ux;rw[adY];refine dA oQ hy ?_;apply ws;intros;rw[e5];refine bw (λg2=>?_) (λg2=>?_)
  ·have k1:y.kind=1:=by simpa using g2
   rw[if_pos k1] at hut;apply ws;intros;subst Hz;have kR:m' y.key=none:=by
    cases hm:m' y.key with
    |none=>rfl
    |some v=>
     obtain⟨j,z,q1,q2,q3,q4,q5⟩:=hp.to _ _ hm;have:=ht.one j i z y q2 hy q3 k1 q4;omega
   refine EJ Gv (λi2 z hz hk he=>?_) (λp Lw=>?_)
   ·have:=Gv.is i2 z hz hk;rw[he,kR] at this;cases this
   apply ws;intros;obtain⟨z,d,hz,Ul,_⟩:=Lw.place;have wZ:=(adZ.1 hz).1;refine pe ⟨by omega,by omega⟩ ?_;rw[adY];apply ws;intros;refine nd oQ wZ (uU _) ?_;have Im:=Gv.put (v:=y.at_) Lw hz (by omega);have hz2:z.kind≠2:=λhh=>by
    have:=List.countP_eq_zero.1 Gv.left z (aep hz);simp[hh] at this
   rw[if_neg hz2] at Im;have ey:(⟨y.key,y.at_,1⟩:Cell)=y:=by rw[<-k1]
   rw[ey] at Im;refine T.drop λw6 h6=>⟨⟨i+1,rB.set p y,sr m' y.key (some y.at_),u'+1,aZ,ae2,Im,⟨?_,?_,?_⟩,rfl,h6⟩,by show cs.length-((i+1:Nat):Int).toNat<cs.length-(i:Int).toNat;omega⟩
   ·intro k v hk;unfold sr at hk;by_cases ek:k=y.key
    ·rw[if_pos ek] at hk;cases hk;exact⟨i,y,by omega,hy,k1,ek.symm,rfl⟩
    ·rw[if_neg ek] at hk;obtain⟨j,z,q1,q2⟩:=hp.to k v hk;exact⟨j,z,by omega,q2⟩
   ·intro j z hj Py Ul;unfold sr;by_cases ek:z.key=y.key
    ·have:=ht.one j i z y Py hy Ul k1 ek;subst this;rw[hy] at Py;cases Py
     rw[if_pos rfl]
    ·rw[if_neg ek];refine hp.from_ j z ?_ Py Ul;by_cases ej:j=i
     ·subst ej;rw[hy] at Py;cases Py;exact absurd rfl ek
     ·omega
   ·rw[tM cs _ hy,hp.n];simp[k1]
  ·have k1: ¬y.kind=1:=by simpa using g2
   refine T.drop λw6 h6=>⟨⟨i+1,rB,m',u',aZ,Hz,Gv,⟨?_,?_,?_⟩,rfl,h6⟩,by show cs.length-((i+1:Nat):Int).toNat<cs.length-(i:Int).toNat;omega⟩
   ·intro k v hk;obtain⟨j,z,q1,q2⟩:=hp.to k v hk;exact⟨j,z,by omega,q2⟩
   ·intro j z hj Py Ul;refine hp.from_ j z ?_ Py Ul;by_cases ej:j=i
    ·subst ej;rw[hy] at Py;cases Py;exact absurd Ul k1
    ·omega
   ·rw[tM cs _ hy,hp.n];simp[k1]
 ·have he:i=cs.length:=by omega
  subst he;obtain⟨rfl,rfl⟩:=hp.same ht;subst Hz;have:=h (some ⟨r,0,none⟩) rB.length rB Gv (by omega);exact λw hs=>this w ((hs.perm (aem.swap _ _ _)).focus (k:=2) rfl).drop
def F6{b:OA}{c u lf k:Nat}{v:Int}{cs:List Cell}{m:Nat->Option Int}{R:LH}{r1:Nat}{g:LV->LH}[i:Lc (Sep.pt r1) R (nm k) g](ht:TI cs m u lf)(hr:4* (u+lf+1)<=3* cs.length)(hk:m k=none)
 (h:∀b' c' rB Hv,TI rB (sr m k (some v)) (u+1) Hv->T W (Sep.pt t [.l b' rB.length c',.i ((u+1:Nat):Int),.i (Hv:Int)]::own b' rB.length c' 4 (rB.flatMap kn)::R) (K (.bool true))):
 T W (Sep.pt t [.l b cs.length c,.i (u:Int),.i (lf:Int)]::own b cs.length c 4 (cs.flatMap kn)::R) (bZ.j1 K r1 (some ⟨t,0,none⟩) v):=by
 unfold bZ.j1;apply ws;intros;refine EJ ht (λi2 z hz XY he=>?_) (λp Lw=>?_)
 ·have:=ht.is i2 z hz XY;rw[he,hk] at this;cases this
 obtain⟨z,d,hz,Ul,_⟩:=Lw.place;have wZ:=(adZ.1 hz).1;have hN:=ht.pow.le;apply ws;intros;refine bR ⟨by omega,by omega⟩ λr hr=>?_;subst hr;rw[adY];simp only[dZ,ad1];refine Az (r:=r) (j:=3) oQ hz rfl ?_;have Im:=ht.put (v:=v) Lw hz hr;have W7:∀Hv:Nat,Hv=(if z.kind=2 then lf-1 else lf)->T W (Sep.pt t [.l (some ⟨r,0,none⟩) cs.length c,.i (u:Int),.i (Hv:Int)]::own (some ⟨r,0,none⟩) cs.length c 4 (cs.flatMap kn)::R) (bZ.j2 K (some ⟨t,0,none⟩) r1 (p:Int) v):=by
  intro Hv hlf;unfold bZ.j2;apply ws;intros;refine pe ⟨by omega,by omega⟩ ?_;rw[adY];refine cL rfl ?_;show T W _ (gp _ (kn ⟨k,v,1⟩) _);refine nd oQ wZ (uU _) ?_;apply ws;intros;have yX:=ht.room;rw[ar (by omega),show(u:Int)+1=((u+1:Nat):Int) by omega];have:=h (some ⟨r,0,none⟩) c (cs.set p ⟨k,v,1⟩) Hv (by rw[hlf];exact Im);rw[ae2] at this;exact this
 have yX:=ht.room;apply ws;intros;refine bw (λg2=>?_) (λg2=>?_)
 ·have k2:z.kind=2:=by simpa using g2
  have h1:1<=lf:=by
   rw[<-ht.left];exact List.countP_pos_iff.2 ⟨z,aep hz,by simpa using k2⟩
  apply ws;intros;rw[ar (by omega),show(lf:Int) -1=((lf-1:Nat):Int) by omega];exact W7 (lf-1) (by rw[if_pos k2])
 ·have k2: ¬z.kind=2:=by simpa using g2
  exact W7 lf (by rw[if_neg k2])
def Kv{k:Nat}{v:Int}[i:Lc (lz t) L x f](hu:x.2<=1000)(hk:x.1 k=none)(h:T W (f (sr x.1 k (some v),x.2+1)) (K (.bool true))):T W L (bZ (some ⟨t,0,none⟩) (nm k) v K):=by
 refine MT (t:=t) λb c cs lf R ht hc=>?_;unfold bZ;refine qL λr1=>dO rfl ?_;refine T.aan ?_;have hN:=ht.pow.le;have yX:=ht.room;have fin:∀b' c' rB Hv,TI rB (sr x.1 k (some v)) (x.2+1) Hv->T W (Sep.pt t [.l b' rB.length c',.i ((x.2+1:Nat):Int),.i (Hv:Int)]::own b' rB.length c' 4 (rB.flatMap kn)::Sep.pt r1 (nm k)::R) (K (.bool true)):=
  λb' c' rB Hv Gv w hs=>hc _ _ _ _ _ _ _ Gv h w (hs.focus (k:=2) rfl).drop
 have Uo:adU.wrap ((x.2:Int)+lf)=(x.2:Int)+lf:=ar (by omega);have Xu:adU.wrap ((x.2:Int)+lf+1)=(x.2:Int)+lf+1:=ar (by omega);have Xt:adU.wrap (4* ((x.2:Int)+lf+1))=4* ((x.2:Int)+lf+1):=ar (by omega);have hw4:adU.wrap (3* (cs.length:Int))=3* (cs.length:Int):=ar (by omega);apply ws;intros;rw[Uo,Xu,Xt,hw4];refine dX (λg=>?_) (λg=>?_)
 ·refine U' ht hu λb' c' rB Gv Hz=>?_;apply ws;intros;exact F6 (lf:=0) Gv (by omega) hk fin
 ·have:=g;exact F6 ht (by omega) hk fin
def Tn(h:∀t,T W (lz t (λ_=>none,0)::L) (K (.p (some ⟨t,0,none⟩)))):T W L (rP K):=by
 unfold rP;refine D0 ⟨by decide,by decide,by decide,by decide⟩ λr=>?_;rw[show((8:Int).toNat)=8 from rfl,nG (g:=kn) (z:=⟨0,0,0⟩) (zs:=[.u 0,.u 0,.i 0,.int .u8 0]) rfl];apply ws;intros;rename_i r1;refine λw hs=>h r1 w ?_;exact St.nV (some ⟨r,0,none⟩,8,aec 8 ⟨0,0,0⟩,0) (St.and_intro (TI.new ⟨3,by decide,by decide,rfl⟩) (St.join hs))
end
section
variable {W:World} {L:LH} {K:VK} {X:WK} {α:Type} {r o:Nat} {pre post:LV} {g:α->LV} {e:Nat} {l:List α} {f:List α->LH}
def eY{e:Nat}(h:T W (own none 0 0 e []::L) X):T W L X:=λw hs=>h w (hs.push (nO e))
def hG{b:OA}{n c bytes r1:Nat}{zero:LV}{x:α}{ys:LV}{f:HP->LH}{f1:LV->LH}{K:OA->Nat->Nat->WK}[i:o8 b n c L e (l.flatMap g) f][j:Lc (Sep.pt r1) L ys f1](hy:ys=g x)(hg:(g x).length=e)(hz:zero.length=e)
 (hb:(n+1)* bytes<=140737488355328)(hm:n+1<=9223372036854775807)(h1:∀v∈g x,v.oneCell'=true)(h:∀b' c',T W (f (own b' (n+1) c' e ((l++[x]).flatMap g))) (K b' (n+1) c')):T W L (eW e bytes zero b n c (some ⟨r1,0,none⟩) 1 K):=by
 refine M' (ys:=ys) (by rw[hy];exact hg) hz hb (by rw[hy];exact h1) (λb' c'=>?_) hm;have:=h b' c';rw[aeV] at this;simpa [hy] using this
def A3{b:OA}{n c e i:Nat}{xs:LV}(hi:i<=n):∀h,own b n c e xs h->own b i c e (xs.take (i* e)) h:=λh=>by
 rintro⟨hl,h0|⟨r,sp,hb,qV,zy,hp⟩⟩
 ·obtain⟨rfl,rfl,rfl⟩:=h0;have:i=0:=by omega
  subst this;exact⟨by simp,.inl ⟨rfl,rfl,rfl⟩⟩
 ·have Wt:i* e<=n* e:=aeL e hi;refine⟨by rw[ad2];omega,.inr ⟨r,xs.drop (i* e)++sp,hb,by omega,?_,?_⟩⟩
  ·rw[ad0,ad9,zy,hl,Nat.sub_mul,Nat.sub_mul];have:n* e<=c* e:=aeL e qV;omega
  ·rw[<-ad5,aer];exact hp
def DF{g:α->LV}(hg:∀x,(g x).length=e):∀(l:List α)(i:Nat),(l.flatMap g).take (i* e)=(l.take i).flatMap g
 |[],i=>by simp
 |x::l,0=>by simp
 |x::l,i+1=>by
  rw[aeN,List.take_succ_cons,aeN,<-DF hg l i,show(i+1)* e=(g x).length+i* e by rw[hg,afl];omega,List.take_length_add_append]
def wv{b:OA}{n c i:Nat}{f:HP->LH}[j:o8 b n c L e (l.flatMap g) f](hg:∀x,(g x).length=e)(hi:i<=n)(h:T W (f (own b i c e ((l.take i).flatMap g))) X):T W L X:=λw hs=>by
 obtain⟨k,hk,e1⟩:=j.at_;refine h w ?_;rw[e1,<-DF hg];exact St.nJ ((hs.focus hk).mono (A3 hi)) hk
def vw{b:OA}{n c i:Nat}{K:OA->Nat->Nat->WK}(hi:i<=c)(h:T W L (K b i c)):T W L (oo b n c e none (some (i:Int)) K):=by
 unfold oo;refine cL ⟨by omega,by omega⟩ ?_;dsimp only;rw[Sy,adY];exact h
def mZ{b:OA}{n c:Nat}{f:HP->LH}{xs:LV}[j:o8 b n c L e xs f](h:n<=c->xs.length=n* e->T W L X):T W L X:=λw hs=>by
 obtain⟨k,hk,_⟩:=j.at_;obtain⟨hl,h0|⟨r,sp,hb,qV,_⟩⟩:=hs.lQ hk
 ·exact h (by omega) hl w hs
 ·exact h qV hl w hs
end
abbrev kq:=Int×Int
def lD(p:kq):LV:=[.i p.1,.i p.2]
def kB(p:kq):(lD p).length=2:=rfl
instance{p:kq}:Ln (lD p) 2:=⟨rfl⟩
instance{p:kq}:Gt (lD p) 1 (.i p.2):=⟨rfl⟩
def qa(p:kq):∀v∈lD p,v.oneCell'=true:=λv h=>by simp[lD] at h;rcases h with rfl|rfl<;>rfl
instance{x1 x2:Value}{p:kq}:Wr [x1,x2] 0 (lD p) (lD p):=⟨rfl,ad4 _,qa p⟩
def pos(s:Int):List kq->Nat
 |[]=>0
 |p::l=>if p.1<s then pos s l+1 else 0
def Ek(s:Int):∀l:List kq,pos s l<=l.length
 |[]=>ad4 _
 |p::l=>by unfold pos;split<;>simp;exact Ek s l
def oT(l:List kq):Prop:=l.Pairwise λa b=>a.1<b.1
def H'(s:Int):∀(l:List kq)(i:Nat),i<=l.length->(∀(j:Nat)(p:kq),j<i->l[j]?=some p->p.1<s)->(∀(j:Nat)(p:kq),i<=j->l[j]?=some p->s<=p.1)->i=pos s l
 |[],i,hi,_,_=>by simp at hi;subst hi;rfl
 |q::l,0,hi,h1,h2=>by
  unfold pos;rw[if_neg];have:=h2 0 q (ad4 _) rfl;omega
 |q::l,i+1,hi,h1,h2=>by
  unfold pos;rw[if_pos (h1 0 q (by omega) rfl),<-H' s l i (by simpa using hi) (λj p hj hp=>h1 (j+1) p (by omega) (by simpa using hp)) (λj p hj hp=>h2 (j+1) p (by omega) (by simpa using hp))]
def half{i j:Nat}(h:i+j<4611686018427387904):adU.wrap (shr .u64 (IntKind.u64.wrap (adU.wrap ((i:Int)+j))) 1)=(((i+j)/2:Nat):Int):=by
 have e0:adU.wrap ((i:Int)+j)=((i+j:Nat):Int):=by rw[ar (by omega)];omega
 rw[e0,oC (by omega)];unfold shr;have e:min (1:Int).toNat IntKind.u64.bits=1:=rfl;rw[e,Int.fdiv_eq_ediv_of_nonneg _ (by decide)];rw[ar (by omega)];omega
def xv(s:Int)(l:List kq)(i:Nat):Bool:=match l[i]? with|some p=>decide (s<=p.1)|none=>true
section
variable {W:World} {L:LH} {K:VK} {X:WK} {r o:Nat} {l:List kq}
def O7{n:Nat}{v:Value}(P:Nat->Bool)(hn:n<1099511627776)(SR:∀i j,i<=j->P i=true->P j=true)
 (Yf:∀(i:Nat)(K:VK),i<n->T W L (K (.bool (P i)))->T W L (tz [(N.cZ,cZ.u)] v [.i (i:Int)] K))
 (h:∀i:Nat,i<=n->(∀j,j<i->P j=false)->(∀j,i<=j->j<n->P j=true)->T W L (K (.i (i:Int)))):T W L (qO (n:Int) v K):=by
 unfold qO;intro w hs;refine⟨λvs w=>∃i j:Nat,i<=j/\j<=n/\(∀k,k<i->P k=false)/\(∀k,j<=k->k<n->P k=true)/\vs=[.i 0,.i (i:Int),.i (j:Int)]/\St W w L,
  λvs _=>match vs with|[_,.int _ i,.int _ j]=>j.toNat-i.toNat|_=>0,⟨0,n,ad6 _,ad4 _,(λk hk=>by omega),(λk h1 h2=>by omega),rfl,hs⟩,?_⟩
 rintro n2 n3 n4 w2 ⟨i,j,HB,hjn,hi,hj,e,hs⟩;cases e
 refine T.at ?_ hs;rw[half (by omega)];refine dX (λg=>?_) (λg=>?_)
 ·have aZ:i<j:=by omega
  refine cL (by decide) (Yf _ _ (by omega) ?_);refine nK (bw (λg2=>?_) (λg2=>?_))
  ·have p0:P ((i+j)/2)=false:=by simpa using g2
   have e1:adU.wrap ((((i+j)/2:Nat):Int)+1)=(((i+j)/2+1:Nat):Int):=by rw[ar (by omega)];omega
   rw[e1];refine λw3 h3=>⟨⟨(i+j)/2+1,j,by omega,hjn,λk hk=>?_,hj,rfl,h3⟩,by show(j:Int).toNat-(((i+j)/2+1:Nat):Int).toNat<(j:Int).toNat-(i:Int).toNat;omega⟩;cases hp:P k with
   |false=>rfl
   |true=>rw[SR k ((i+j)/2) (by omega) hp] at p0;cases p0
  ·have p1:P ((i+j)/2)=true:=by simpa using g2
   refine λw3 h3=>⟨⟨i,(i+j)/2,by omega,by omega,hi,λk hk _=>SR _ k hk p1,rfl,h3⟩,by show(((i+j)/2:Nat):Int).toNat-(i:Int).toNat<(j:Int).toNat-(i:Int).toNat;omega⟩
 ·have:i=j:=by omega
  subst this;exact h i hjn hi hj
def zV{s:Int}{cs:LV}{b:OA}{c:Nat}{f:LV->LH}{g:HP->LH}(hv:cs[o]?=some (.l b l.length c))(hr:oT l)(hl:l.length<1099511627776)[i:Lc (Sep.pt r) L cs f][j:o8 b l.length c L 2 (l.flatMap lD) g](h:T W L (K (.i (pos s l:Int)))):T W L (iE (some ⟨r,o,none⟩) s K):=by
 unfold iE
 repeat' first|apply ws;intros|apply wb|with_reducible refine jM hv ?_|fail
 rename_i r1 r2;refine O7 (xv s l) hl ?_ ?_ ?_
 ·intro i j HB hi;unfold xv at *;by_cases hj:j<l.length
  ·have qJ:i<l.length:=by omega
   rw[adX qJ] at hi;rw[adX hj];simp only[decide_eq_true_eq] at *;by_cases e:i=j
   ·subst e;exact hi
   ·have:=ae3.1 hr i j qJ hj (by omega);omega
  ·rw[aeZ (by omega)]
 ·intro i K hi hK;show T W _ (cZ (i:Int) (ad r1 0) (ad r2 0) K);unfold cZ
  repeat' first|apply ws;intros|apply wb|with_reducible refine jM hv ?_|fail
  refine bR ⟨by omega,by omega⟩ λrb hb=>?_;subst hb;rw[adY];refine vx kB (adX hi) rfl ?_;apply ws;intros;refine T.fin (T.dp hK) ?_;unfold xv;rw[adX hi]
 ·intro i hi h1 h2;apply ws;intros;have e:i=pos s l:=H' s l i hi (λj p hj hp=>by
   have:=h1 j hj
   unfold xv at this
   rw[hp] at this
   simpa using this) (λj p hj hp=>by
   have:=h2 j hj (adZ.1 hp).1
   unfold xv at this
   rw[hp] at this
   simpa using this)
  subst e;exact T.drop (T.drop h)
def JH{s:Int}:∀{l:List kq},(∀p∈l,p.1<s)->pos s l=l.length
 |[],_=>rfl
 |p::l,h=>by unfold pos;rw[if_pos (h p (by simp)),JH λq hq=>h q (by simp[hq])];rfl
def DZ{r o:Nat}{cs:LV}{v:Value}{u:Value}{f:LV->LH}[i:Lc (Sep.pt r) L cs f](hv:cs[o]?=some u)(h1:v.oneCell'=true)(h:T W (f (cs.set o v)) X):T W L (st ⟨r,o,none⟩ v X):=yH (adZ.1 hv).1 h1 h
def px{cs:LV}{o:Nat}{u v:Value}(hv:cs[o]?=some u):(cs.set o v)[o]?=some v:=by rw[aet,if_pos rfl,if_pos (adZ.1 hv).1]
def tO{b:OA}{n c i e:Nat}{K:OA->Nat->Nat->WK}(hi:i<=n)(h:T W L (K (tR b c i e) (n-i) (c-i))):T W L (oo b n c e (some (i:Int)) none K):=by
 unfold oo;refine cL ⟨by omega,by omega⟩ ?_;rw[adY];exact h
def Ks(w:World)(e:Nat)(b:OA):Src w 0 e b []:=⟨by simp,λa ha j v hj=>by simp at hj⟩
def WV{e n m:Nat}{b b':OA}{K:Nat->WK}(hm:min m n=0)(h:T W L (K 0)):T W L (OF e b n b' m K):=λw hs=>by
 unfold OF;rw[hm];exact⟨[],Ks w e b',λ_=>rfl,λ_=>h w hs,λa _=>⟨⟨by simp,λj hj=>by simp at hj⟩,h w hs⟩⟩
def TU{b b':OA}{n c e bytes:Nat}{zero:LV}{K:OA->Nat->Nat->WK}{xs:LV}{f:HP->LH}[i:o8 b n c L e xs f](h:T W L (K b n c)):T W L (eW e bytes zero b n c b' 0 K):=
 mZ (b:=b) λqV _ w hs=>⟨[],Ks w e b',λ_=>rfl,λ_=>⟨λa _=>⟨⟨by simp,λj hj=>by simp at hj⟩,h w hs⟩,λ_=>h w hs⟩,λaZ=>by omega⟩
section
variable {R:LH} {cs:LV} {b:OA} {c:Nat}
def Ua{s a:Int}(hv:cs[o]?=some (.l b l.length c))(hr:oT l)(hl:l.length<1099511627)(hs:∀p∈l,p.1<s)
 (h:∀b' c',T W (Sep.pt r (cs.set o (.l b' (l.length+1) c'))::own b' (l.length+1) c' 2 ((l++[(s,a)]).flatMap lD)::R) (K (.bool true))):
 T W (Sep.pt r cs::own b l.length c 2 (l.flatMap lD)::R) (fB (some ⟨r,o,none⟩) s a K):=by
 unfold fB;refine tQ ?_;refine zV hv hr (by omega) ?_;rw[JH hs]
 repeat' first|apply ws;intros|apply wb|with_reducible refine jM hv ?_|fail
 refine dO (by simp) ?_;unfold fB.j1
 repeat' first|apply ws;intros|apply wb|with_reducible refine jM hv ?_|fail
 refine hG (x:=((0:Int),(0:Int))) rfl rfl rfl (by omega) (by omega) (qa _) λb' c'=>?_
 repeat' first|apply ws;intros|apply wb|with_reducible first|refine DZ hv rfl ?_|refine jM (px hv) ?_|fail
 have e1:adU.wrap ((l.length:Int)+1)=((l.length+1:Nat):Int):=by rw[ar (by omega)];omega
 rw[e1];refine tO (ad4 _) ?_
 repeat' first|apply ws;intros|apply wb|with_reducible refine jM (px hv) ?_|fail
 refine tO (by omega) ?_;refine WV (by omega) ?_
 repeat' first|apply ws;intros|apply wb|with_reducible first|refine tP (px hv) ?_|refine jM (px hv) ?_|fail
 refine mZ (b:=b') λqV hlen=>?_;refine bR ⟨by omega,by omega⟩ λrb hb=>?_;subst hb;rw[adY];refine cL rfl ?_;show T W _ (gp _ (lD (s,a)) _);refine nd kB (by simp) (qa _) ?_;have:=h (some ⟨rb,0,none⟩) c';rw[List.set_append_right _ _ (ad4 _)];simpa using T.drop this
def QC{s a:Int}{l0:List kq}(hv:cs[o]?=some (.l b l.length c))(hr:oT l)(hl:l.length<1099511627)(hs:l=l0++[(s,a)])
 (h:∀b' c',T W (Sep.pt r (cs.set o (.l b' l0.length c'))::own b' l0.length c' 2 (l0.flatMap lD)::R) (K (.bool true))):
 T W (Sep.pt r cs::own b l.length c 2 (l.flatMap lD)::R) (fI (some ⟨r,o,none⟩) s K):=by
 have hlen:l.length=l0.length+1:=by rw[hs];simp
 have hp:pos s l=l0.length:=by
  refine(H' s l l0.length (by omega) (λj p hj SQ=>?_) (λj p hj SQ=>?_)).symm
  ·have aZ:=(adZ.1 SQ).1;have:=ae3.1 hr j l0.length aZ (by omega) hj;rw[adX aZ] at SQ;rw[aeh.inj SQ] at this;have e:l[l0.length]=(s,a):=by simp[hs]
   rw[e] at this;exact this
  ·have aZ:=(adZ.1 SQ).1;have:j=l0.length:=by omega
   subst this;rw[hs] at SQ;simp at SQ;rw[<-SQ];exact afy _
 have hg:l[l0.length]?=some (s,a):=by rw[hs];simp
 unfold fI;refine tQ ?_;refine zV hv hr (by omega) ?_;rw[hp]
 repeat' first|apply ws;intros|apply wb|with_reducible refine jM hv ?_|fail
 refine dO (by simp;omega) ?_
 repeat' first|apply ws;intros|apply wb|with_reducible refine jM hv ?_|fail
 refine bR ⟨by omega,by omega⟩ λrb hb=>?_;subst hb;rw[adY];refine vx kB hg rfl ?_;apply ws;intros;unfold fI.j1;refine dO (by simp) ?_
 repeat' first|apply ws;intros|apply wb|with_reducible refine jM hv ?_|fail
 refine mZ (b:=some ⟨rb,0,none⟩) λqV xa=>?_;refine vw (by omega) ?_
 repeat' first|apply ws;intros|apply wb|with_reducible refine jM hv ?_|fail
 have e1:adU.wrap ((l0.length:Int)+1)=((l0.length+1:Nat):Int):=by rw[ar (by omega)];omega
 rw[e1];refine tO (by omega) ?_;rw[hlen] at hv;rw[hlen,afj];have et:l.take l0.length=l0:=by rw[hs];simp
 refine wv (b:=some ⟨rb,0,none⟩) (i:=l0.length) kB (by omega) ?_;rw[et];refine TU (b:=some ⟨rb,0,none⟩) ?_
 repeat' first|apply ws;intros|apply wb|with_reducible first|refine tP hv ?_|refine DZ hv rfl ?_|fail
 exact h _ _
def qK(to:Int)(l:List kq):Nat:=if to=0 then l.length else match l[pos to l]? with|some p=>if p.1=to then pos to l+1 else pos to l|none=>pos to l
def P5(to:Int)(l:List kq):qK to l<=l.length:=by
 unfold qK;have:=Ek to l;split
 ·exact ad4 _
 ·split
  ·rename_i p hp;have:=(adZ.1 hp).1;split<;>omega
  ·omega
def mM(from_ to:Int)(l:List kq):List kq:=(l.drop (pos from_ l)).take (qK to l-pos from_ l)
def Qn{m out:List kq}{i:Nat}(hl:m.length=out.length)(hm:∀j,j<out.length->m[j]?=if j<i\/out.length-1-j<i then out[out.length-1-j]? else out[j]?)(hi:out.length<=2* i+1):m=out.reverse:=by
 apply afg;intro j;by_cases hj:j<out.length
 ·rw[hm j hj,List.getElem?_reverse hj];by_cases h:j<i\/out.length-1-j<i
  ·rw[if_pos h]
  ·rw[if_neg h];congr 1;omega
 ·rw[aeZ (by omega),aeZ (by simpa using hj)]
def NI{from_ to:Int}{uS:Bool}{f:LV->LH}{g:HP->LH}(hv:cs[o]?=some (.l b l.length c))(hr:oT l)(hl:l.length<100000)[i:Lc (Sep.pt r) L cs f][j:o8 b l.length c L 2 (l.flatMap lD) g]
 (h:∀b' c' out,out=(if uS then(mM from_ to l).reverse else mM from_ to l)->T W (own b' out.length c' 2 (out.flatMap lD)::L) (K (.l b' out.length c'))):T W L (dm (some ⟨r,o,none⟩) from_ to uS K):=by
 unfold dm;refine tQ ?_
 repeat' first|apply ws;intros|apply wb|with_reducible refine jM hv ?_|fail
 refine zV hv hr (by omega) ?_
 repeat' first|apply ws;intros|apply wb|with_reducible refine tP hv ?_|fail
 have j1:T W L (dm.j1 K (pos from_ l:Int) (some ⟨r,o,none⟩) uS (qK to l:Int)):=by
  have hul:=P5 to l;unfold dm.j1;refine eY (e:=2) ?_;intro w hs;refine⟨λvs w=>∃(k:Nat)(out:List kq)(b':OA)(c':Nat),pos from_ l<=k/\(k<=qK to l\/k=pos from_ l)/\out=(l.drop (pos from_ l)).take (k-pos from_ l)/\out.length=k-pos from_ l/\
   vs=[.l none 0 0,.i (k:Int),.i (qK to l:Int),.l b' out.length c']/\St W w (own b' out.length c' 2 (out.flatMap lD)::L),
   λvs _=>match vs with|[_,.int _ k,.int _ n,_]=>n.toNat-k.toNat|_=>0,⟨pos from_ l,[],none,0,ad4 _,.inr rfl,by simp,by simp,rfl,hs⟩,?_⟩
  rintro uG pY uF n5 n6 b' pL c' w2 ⟨k,out,b0,c0,PG,rz,tF,hol,e,hs⟩;cases e
  refine T.at ?_ hs;have Mq:=Ek from_ l;refine dX (λg1=>?_) (λg1=>?_)
  ·have aZ:k<qK to l:=by omega
   have e5:=mh k;have hg:=adX (show k<l.length by omega);generalize l[k]=p at hg
   repeat' first|apply ws;intros|apply wb|with_reducible refine jM hv ?_|fail
   refine bR ⟨by omega,by omega⟩ λrb hb=>?_;subst hb;rw[adY,e5];refine dA kB hg ?_;apply ws;intros;refine hG (x:=p) rfl rfl rfl (by omega) (by omega) (qa _) λb2 c2=>?_;refine T.drop λw3 h3=>⟨⟨k+1,out++[p],b2,c2,by omega,.inl aZ,?_,by simp;omega,by simp,by simpa using h3⟩,by show(qK to l:Int).toNat-((k+1:Nat):Int).toNat<(qK to l:Int).toNat-(k:Int).toNat;omega⟩;rw[show k+1-pos from_ l=(k-pos from_ l)+1 by omega,aeg,<-tF,afd,show pos from_ l+(k-pos from_ l)=k by omega,hg]
   rfl
  ·have gF:qK to l<=k:=by omega
   have XE:out=mM from_ to l:=by
    rw[tF];unfold mM;rcases rz with h2|h2
    ·rw[show k=qK to l by omega]
    ·rw[h2,afj,show qK to l-pos from_ l=0 by omega]
   refine bw (λg2=>?_) (λg2=>?_)
   ·subst g2;intro w2 hs;refine⟨λvs w=>∃(i:Nat)(m:List kq),i<=out.length/\m.length=out.length/\(∀j,j<out.length->m[j]?=if j<i\/out.length-1-j<i then out[out.length-1-j]? else out[j]?)/\
     vs=[.l none 0 0,.l b' out.length c',.i (i:Int),.i ((out.length:Int) -1-i)]/\St W w (own b' out.length c' 2 (m.flatMap lD)::L),
     λvs _=>match vs with|[_,_,.int _ k,_]=>out.length-k.toNat|_=>0,⟨0,out,ad6 _,rfl,λj hj=>by simp,by rw[ar (by omega)];simp,hs⟩,?_⟩
    rintro ZI W3 V9 sb7 ZF sc7 n7 n8 w5 ⟨i,m,hi,GB,hm,e,hs⟩;cases e
    refine T.at ?_ hs;refine dX (λg3=>?_) (λg3=>?_)
    ·have aZ:(i:Int)<(out.length:Int) -1-i:=g3;obtain⟨k2,aaL⟩:∃k2:Nat,k2=out.length-1-i:=⟨_,rfl⟩;have ek:(out.length:Int) -1-i=(k2:Int):=by omega
     have e5:=mh i;have e6:adU.wrap ((k2:Int) -1)=(out.length:Int) -1-((i+1:Nat):Int):=by rw[ar (by omega)];omega
     have g4:=adX (show i<m.length by omega);have g5:=adX (show k2<m.length by omega);have g6:=hm i (by omega);have g7:=hm k2 (by omega);rw[if_neg (by omega)] at g6;rw[if_neg (by omega)] at g7;generalize m[i]=x at g4;generalize m[k2]=y at g5;rw[ek,e5,e6];apply ws;intros;refine bR ⟨by omega,by omega⟩ λrb hb=>?_;subst hb;rw[adY];refine dA kB g5 ?_;refine pe ⟨by omega,by omega⟩ ?_;rw[adY];refine dA kB g4 ?_;refine pe ⟨by omega,by omega⟩ ?_;rw[adY];refine cL rfl (nd kB (by omega) (qa _) ?_);refine pe ⟨by omega,by omega⟩ ?_;rw[adY];refine cL rfl (nd kB (by simp;omega) (qa _) ?_);refine λw3 h3=>⟨⟨i+1,(m.set i y).set k2 x,by omega,by simp[GB],λj hj=>?_,rfl,h3⟩,by show out.length-((i+1:Nat):Int).toNat<out.length-(i:Int).toNat;omega⟩;rw[aet,aet];by_cases q1:k2=j
     ·subst q1;rw[if_pos rfl,if_pos (by simp;omega),if_pos (by omega),show out.length-1-k2=i by omega,<-g6,g4]
     ·rw[if_neg q1];by_cases q2:i=j
      ·subst q2;rw[if_pos rfl,if_pos (by omega),if_pos (by omega),<-aaL,<-g7,g5]
      ·rw[if_neg q2,hm j hj];by_cases q3:j<i\/out.length-1-j<i
       ·rw[if_pos q3,if_pos (by omega)]
       ·rw[if_neg q3,if_neg (by omega)]
    ·have adK: ¬(i:Int)<(out.length:Int) -1-i:=g3;have:=Qn GB hm (by omega);subst this;have:=h b' c' out.reverse (by rw[if_pos rfl,XE]);rw[aeU] at this;exact this
   ·subst g2;exact h b' c' out (by rw[if_neg (by decide),XE])
 refine bw (λg1=>?_) (λg1=>?_)
 ·have Pz:to≠0:=by simpa using g1
  refine zV hv hr (by omega) ?_;have hpt:=Ek to l
  repeat' first|apply ws;intros|apply wb|with_reducible refine jM hv ?_|fail
  unfold qK at j1;rw[if_neg Pz] at j1;refine dX (λg2=>?_) (λg2=>?_)
  ·have aZ:pos to l<l.length:=by omega
   have hg:=adX aZ;generalize l[pos to l]=p at hg;have e5:adU.wrap ((pos to l:Int)+1)=((pos to l+1:Nat):Int):=by rw[ar (by omega)];omega
   rw[hg] at j1;dsimp only at j1
   repeat' first|apply ws;intros|apply wb|with_reducible refine jM hv ?_|fail
   rw[e5];refine bR ⟨by omega,by omega⟩ λrb hb=>?_;subst hb;rw[adY];refine vx kB hg rfl ?_;apply ws;intros;refine bw (λg3=>?_) (λg3=>?_)
   ·rw[if_pos (by simpa using g3)] at j1;exact j1
   ·rw[if_neg (by simpa using g3)] at j1;exact j1
  ·have gF:l.length<=pos to l:=by omega
   rw[aeZ gF] at j1;exact j1
 ·have Pz:to=0:=by simpa using g1
  unfold qK at j1;rw[if_pos Pz] at j1;exact j1
end
end
structure Item where
 due:Int
 ae:Int
 id:Nat
def dI(x:Item):LV:=[.i x.due,.i x.ae]++nm x.id
def fe(x:Item):(dI x).length=4:=rfl
instance{x:Item}:Ln (dI x) 4:=⟨rfl⟩
instance{x:Item}:Gt (dI x) 0 (.i x.due):=⟨rfl⟩
instance{x:Item}:Gt (dI x) 1 (.i x.ae):=⟨rfl⟩
def mE(x:Item):∀v∈dI x,v.oneCell'=true:=lh (λv h=>by simp at h;rcases h with rfl|rfl<;>rfl) (kC _)
instance{x1 x2 x3 x4:Value}{p:Item}:Wr [x1,x2,x3,x4] 0 (dI p) (dI p):=⟨rfl,ad4 _,mE p⟩
instance{p:Item}:Sub (dI p) 0 4 (dI p):=⟨rfl,λj v h=>by rw[ad1];exact h⟩
def bf(a b:Item):Prop:=a.due<b.due\/a.due=b.due/\a.ae<b.ae
instance(a b:Item):Decidable (bf a b):=by unfold bf;infer_instance
def Ki{a b:Item}(h:bf a b): ¬bf b a:=by unfold bf at *;omega
def Ha{a b c:Item}(h:bf a b)(g:bf b c):bf a c:=by unfold bf at *;omega
def Bd{a b c:Item}(h: ¬bf a b)(g: ¬bf b c): ¬bf a c:=by unfold bf at *;omega
def NM{a b c:Item}(h: ¬bf a c)(g:bf b c): ¬bf a b:=λhh=>h (Ha hh g)
def IW(a:Item): ¬bf a a:=by unfold bf;omega
def par(j:Nat):Nat:=(j-1)/2
def NB(h:List Item)(i j:Nat):Prop:=∀x y,h[i]?=some x->h[j]?=some y-> ¬bf x y
def qN(h:List Item):Prop:=∀j,0<j->NB h j (par j)
def HU(h:List Item)(i:Nat):Prop:=(∀j,0<j->j≠i->NB h j (par j))/\(∀j,0<j->par j=i->0<i->NB h j (par i))
def HD(h:List Item)(i:Nat):Prop:=(∀j,0<j->par j≠i->NB h j (par j))/\(∀j,0<j->par j=i->0<i->NB h j (par i))
def Kids(h:List Item)(i:Nat):Prop:=∀j,0<j->par j=i->NB h j i
def qN.hu{h:List Item}(hh:qN h)(i:Nat):HU h i:=by
 refine⟨λj h0 _=>hh j h0,λj h0 hp hi x y hx hy=>?_⟩;have aZ:j<h.length:=(adZ.1 hx).1;have Lt:i<h.length:=by unfold par at hp;omega
 have a1:=hh j h0 x _ hx (by rw[hp];exact adX Lt);exact Bd a1 (hh i hi _ y (adX Lt) hy)
def HU.heap{h:List Item}{i:Nat}(hu:HU h i)(hx:i=0\/NB h i (par i)):qN h:=λj h0=>by
 by_cases e:j=i
 ·subst e;rcases hx with hx|hx
  ·omega
  ·exact hx
 ·exact hu.1 j h0 e
def HD.heap{h:List Item}{i:Nat}(hd:HD h i)(hk:Kids h i):qN h:=λj h0=>by
 by_cases e:par j=i
 ·rw[e];exact hk j h0 e
 ·exact hd.1 j h0 e
def Qd(h:List Item)(i k:Nat)(x y:Item):List Item:=(h.set i y).set k x
def Jk(h:List Item)(i k:Nat)(x y:Item):(Qd h i k x y).length=h.length:=by simp[Qd]
section
variable {h:List Item} {i k:Nat} {x y:Item}
def Jl(hx:h[i]?=some x)(hy:h[k]?=some y)(N6:i≠k)(j:Nat):(Qd h i k x y)[j]?=if j=i then some y else if j=k then some x else h[j]?:=by
 have l1:=(adZ.1 hx).1;have l2:=(adZ.1 hy).1;unfold Qd;rw[aet,aet];by_cases e1:k=j
 ·subst e1;rw[if_pos rfl,if_pos (by simpa using l2),if_neg (by omega),if_pos rfl]
 ·rw[if_neg e1];by_cases e2:i=j
  ·subst e2;rw[if_pos rfl,if_pos l1,if_pos rfl]
  ·rw[if_neg e2,if_neg (by omega),if_neg (by omega)]
def uD:∀{h:List Item} {i:Nat} {x y:Item},h[i]?=some x->(x::h.set i y).Perm (y::h)
 |[],i,x,y,hx=>by simp at hx
 |a::h,0,x,y,hx=>by simp at hx;subst hx;exact aem.swap _ _ _
 |a::h,i+1,x,y,hx=>by
  have ih:=uD (y:=y) (show h[i]?=some x by simpa using hx);rw[afc];exact(aem.swap _ _ _).trans ((ih.cons a).trans (aem.swap _ _ _))
def FJ(hx:h[i]?=some x)(hy:h[k]?=some y)(N6:i≠k):(Qd h i k x y).Perm h:=by
 have h1:=uD (y:=y) hx;have hy2:(h.set i y)[k]?=some y:=by rw[aet,if_neg N6];exact hy
 have h2:=uD (y:=x) hy2;exact(List.perm_cons y).1 (h2.trans h1)
def HU.step(hu:HU h i)(hi:0<i)(hx:h[i]?=some x)(hy:h[par i]?=some y)(hb:bf x y):HU (Qd h i (par i) x y) (par i):=by
 have N6:i≠par i:=by unfold par;omega
 have g:=Jl hx hy N6
 constructor
 ·intro j h0 hj a b ha m8;rw[g] at ha m8;by_cases e1:j=i
  ·subst e1;rw[if_pos rfl] at ha;cases ha
   rw[if_neg (λh=>N6 h.symm),if_pos rfl] at m8;cases m8
   exact Ki hb
  ·rw[if_neg e1,if_neg hj] at ha;by_cases e2:par j=i
   ·rw[if_pos e2] at m8;cases m8
    exact hu.2 j h0 e2 hi a y ha hy
   ·rw[if_neg e2] at m8;by_cases e3:par j=par i
    ·rw[if_pos e3] at m8;cases m8
     exact NM (hu.1 j h0 e1 a y ha (by rw[e3];exact hy)) hb
    ·rw[if_neg e3] at m8;exact hu.1 j h0 e1 a b ha m8
 ·intro j h0 hp Hx a b ha m8;have n1:par (par i)≠i:=by unfold par;omega
  have n2:par (par i)≠par i:=by unfold par at *;omega
  rw[g] at ha m8;rw[if_neg n1,if_neg n2] at m8;have top:=hu.1 (par i) Hx (λh=>N6 h.symm) y b hy m8;by_cases e1:j=i
  ·subst e1;rw[if_pos rfl] at ha;cases ha
   exact top
  ·have n3:j≠par i:=by intro h;rw[h] at hp;exact n2 hp
   rw[if_neg e1,if_neg n3] at ha;exact Bd (hu.1 j h0 e1 a y ha (by rw[hp];exact hy)) top
def HD.step(hd:HD h i)(hk:par k=i)(h0k:0<k)(hx:h[i]?=some x)(hy:h[k]?=some y)(hb:bf y x)(u1:∀j,0<j->par j=i->NB h j k):HD (Qd h i k x y) k:=by
 have N6:i≠k:=by intro h;unfold par at hk;omega
 have g:=Jl hx hy N6
 constructor
 ·intro j h0 hj a b ha m8;rw[g] at ha m8;by_cases e1:j=i
  ·subst e1;rw[if_pos rfl] at ha;cases ha
   have n1:par j≠j:=by unfold par;omega
   rw[if_neg n1,if_neg hj] at m8;exact hd.2 k h0k hk h0 y b hy m8
  ·rw[if_neg e1] at ha;by_cases e2:j=k
   ·subst e2;rw[if_pos rfl] at ha;cases ha
    rw[if_pos hk] at m8;cases m8
    exact Ki hb
   ·rw[if_neg e2] at ha;by_cases e3:par j=i
    ·rw[if_pos e3] at m8;cases m8
     exact u1 j h0 e3 a y ha hy
    ·rw[if_neg e3,if_neg hj] at m8;exact hd.1 j h0 e3 a b ha m8
 ·intro j h0 hp hk0 a b ha m8;rw[g] at ha m8;rw[if_pos hk] at m8;cases m8
  have n1:j≠i:=by intro h;unfold par at hp hk;omega
  have n2:j≠k:=by intro h;unfold par at hp;omega
  rw[if_neg n1,if_neg n2] at ha;exact hd.1 j h0 (by rw[hp];exact λh=>N6 h.symm) a y ha (by rw[hp];exact hy)
def qN.first(hh:qN h)(hx:h[0]?=some x):∀y∈h,¬bf y x:=by
 have key:∀(n j:Nat),j<=n->∀y:Item,h[j]?=some y-> ¬bf y x:=by
  intro n
  induction n with
  |zero=>intro j hj y hy;have:j=0:=by omega
         subst this;rw[hx] at hy;cases hy;exact IW x
  |succ n ih=>
   intro j hj y hy;by_cases h0:j=0
   ·subst h0;rw[hx] at hy;cases hy;exact IW x
   ·have aZ:=(adZ.1 hy).1;have hp:par j<h.length:=by unfold par;omega
    exact Bd (hh j (by omega) y _ hy (adX hp)) (ih (par j) (by unfold par;omega) _ (adX hp))
 intro y hy;obtain⟨j,hj⟩:=aff hy;exact key j j (ad4 _) y hj
def Jc{z:Item}{n:Nat}(hh:qN h)(hl:h.length=n+1)(hi:i<n)(hz:h[n]?=some z):
 (i=0\/NB ((h.set i z).take n) i (par i))->HD ((h.set i z).take n) i:=by
 have g:∀j,((h.set i z).take n)[j]?=if j<n then(if j=i then some z else h[j]?) else none:=by
  intro j;rw[afo];by_cases h1:j<n
  ·rw[if_pos h1,if_pos h1,aet];by_cases h2:i=j
   ·subst h2;rw[if_pos rfl,if_pos (by omega),if_pos rfl]
   ·rw[if_neg h2,if_neg (by omega)]
  ·rw[if_neg h1,if_neg h1]
 have old:∀j a,j≠i->((h.set i z).take n)[j]?=some a->h[j]?=some a:=by
  intro j a hj ha;rw[g] at ha;rw[if_neg hj] at ha;split at ha
  ·exact ha
  ·cases ha
 intro ht;refine⟨λj h0 hp a b ha hb=>?_,λj h0 hp S4 a b ha hb=>?_⟩
 ·by_cases e:j=i
  ·subst e;rcases ht with ht|ht
   ·omega
   ·exact ht a b ha hb
  ·exact hh j h0 a b (old j a e ha) (old _ b hp hb)
 ·have n1:j≠i:=by intro h;unfold par at hp;omega
  have n2:par i≠i:=by unfold par;omega
  exact(hh.hu i).2 j h0 hp S4 a b (old j a n1 ha) (old _ b n2 hb)
def P7{z:Item}{n:Nat}(hh:qN h)(hl:h.length=n+1)(hi:i<n)(hz:h[n]?=some z)(h0i:0<i){y:Item}(hy:h[par i]?=some y)(hb:bf z y):
 HU ((h.set i z).take n) i/\Kids ((h.set i z).take n) i:=by
 have g:∀j,((h.set i z).take n)[j]?=if j<n then(if j=i then some z else h[j]?) else none:=by
  intro j;rw[afo];by_cases h1:j<n
  ·rw[if_pos h1,if_pos h1,aet];by_cases h2:i=j
   ·subst h2;rw[if_pos rfl,if_pos (by omega),if_pos rfl]
   ·rw[if_neg h2,if_neg (by omega)]
  ·rw[if_neg h1,if_neg h1]
 have old:∀j a,j≠i->((h.set i z).take n)[j]?=some a->h[j]?=some a:=by
  intro j a hj ha;rw[g] at ha;rw[if_neg hj] at ha;split at ha
  ·exact ha
  ·cases ha
 have top:=(hh.hu i).2;have kids:Kids ((h.set i z).take n) i:=λj h0 hp a b ha m8=>by
  have n1:j≠i:=by intro h;unfold par at hp;omega
  rw[g,if_pos hi,if_pos rfl] at m8;cases m8
  exact NM (top j h0 hp h0i a y (old j a n1 ha) hy) hb
 refine⟨⟨λj h0 hj a b ha m8=>?_,λj h0 hp S4 a b ha m8=>?_⟩,kids⟩
 ·by_cases e:par j=i
  ·rw[e] at m8;exact kids j h0 e a b ha m8
  ·exact hh j h0 a b (old j a hj ha) (old _ b e m8)
 ·have n1:j≠i:=by intro h;unfold par at hp;omega
  have n2:par i≠i:=by unfold par;omega
  exact top j h0 hp S4 a b (old j a n1 ha) (old _ b n2 m8)
end
section
variable {W:World} {R:LH} {L:LH} {K:VK} {X:WK} {r o:Nat} {cs:LV} {b:OA} {c:Nat} {h:List Item}
def Hb{x y:Item}(hk:T W L (K (.bool (decide (bf x y))))):T W L (nN (dI x) (dI y) K):=by
 unfold nN
 repeat' first|apply ws;intros|apply wb|with_reducible refine bw (λh1=>?_) (λh1=>?_)|fail
 all_goals refine T.fin (T.dp hk) ?_
 ·have:=of_decide_eq_true h1;rw[decide_eq_true (show bf x y from .inl this)]
 ·rename_i h2;have h2:=of_decide_eq_false h2;have h3:x.due=y.due:=by simpa using h1
  congr 1
  rw[decide_eq_decide];unfold bf;omega
 ·rename_i h2;have h2:=of_decide_eq_false h2;have h3: ¬x.due=y.due:=by simpa using h1
  rw[decide_eq_false (show ¬bf x y by unfold bf;omega)]
def GL{i:Nat}(h0:0<i)(h:i<1099511627776):adU.wrap ((adU.wrap ((i:Int) -1)).tdiv (2:Int))=((par i:Nat):Int):=by
 have e0:adU.wrap ((i:Int) -1)=((i-1:Nat):Int):=by rw[ar (by omega)];omega
 rw[e0];unfold par;have e1:((i-1:Nat):Int).tdiv 2=(((i-1)/2:Nat):Int):=by rw[Int.tdiv_eq_ediv_of_nonneg (by omega)];omega
 rw[e1,ar (by omega)]
def WL{i:Nat}(hv:cs[o]?=some (.l b h.length c))(hl:h.length<100000)(hi:i<h.length)(hu:HU h i)
 (hk:∀h',qN h'->h'.Perm h->T W (Sep.pt r cs::own b h.length c 4 (h'.flatMap dI)::R) (K (.tuple ⟨[]⟩))):
 T W (Sep.pt r cs::own b h.length c 4 (h.flatMap dI)::R) (fA (some ⟨r,o,none⟩) (i:Int) K):=by
 unfold fA;intro w hs;refine⟨λvs w=>∃(j:Nat)(m:List Item),j<h.length/\m.length=h.length/\m.Perm h/\HU m j/\vs=[.i (j:Int)]/\St W w (Sep.pt r cs::own b h.length c 4 (m.flatMap dI)::R),
  λvs _=>match vs with|[.int _ j]=>j.toNat|_=>0,⟨i,h,hi,rfl,aem.refl _,hu,rfl,hs⟩,?_⟩
 rintro n2 w2 ⟨j,m,hj,GB,hp,hum,e,hs⟩;cases e
 refine T.at ?_ hs;apply ws;intros;refine dX (λg1=>?_) (λg1=>?_)
 ·have h0:0<j:=by omega
  have Mq:par j<m.length:=by unfold par;omega
  have gx:=adX (show j<m.length by omega);have gy:=adX Mq;generalize m[j]=x at gx;generalize m[par j]=y at gy;have gU:j≠par j:=by unfold par;omega
  simp only[GL h0 (by omega:j<1099511627776)]
  repeat' first|apply ws;intros|apply wb|with_reducible refine jM hv ?_|fail
  refine bR ⟨by omega,by omega⟩ λrb hb=>?_;subst hb;rw[adY];refine dA fe gx ?_
  repeat' first|apply ws;intros|apply wb|with_reducible first|refine jM hv ?_|refine cL (by decide) ?_|fail
  refine pe ⟨by omega,by omega⟩ ?_;rw[adY];refine dA fe gy ?_
  repeat' first|apply ws;intros|apply wb|with_reducible first|refine Hb ?_|refine tP hv ?_|fail
  unfold fA.j1;simp only[GL h0 (by omega:j<1099511627776)];refine dX (λg2=>?_) (λg2=>?_)
  ·have hb:=g2
   repeat' first|apply ws;intros|apply wb|with_reducible first|refine jM hv ?_|refine cL (by decide) ?_|fail
   refine pe ⟨by omega,by omega⟩ ?_;rw[adY];refine dA fe gy ?_
   repeat' first|apply ws;intros|apply wb|with_reducible first|refine jM hv ?_|refine cL (by decide) ?_|fail
   refine pe ⟨by omega,by omega⟩ ?_;rw[adY];refine dA fe gx ?_;refine pe ⟨by omega,by omega⟩ ?_;rw[adY];refine cL rfl (nd fe (by omega) (mE _) ?_);refine pe ⟨by omega,by omega⟩ ?_;rw[adY];refine cL rfl (nd fe (by simp;omega) (mE _) ?_);refine cL (by decide) λw3 h3=>⟨⟨par j,Qd m j (par j) x y,by omega,by rw[Jk];exact GB,(FJ gx gy gU).trans hp,hum.step h0 gx gy hb,rfl,h3⟩,by show(par j:Int).toNat<(j:Int).toNat;unfold par;omega⟩
  ·refine hk m (hum.heap (.inr ?_)) hp;intro a b ha m8;rw[gx] at ha;rw[gy] at m8;cases ha;cases m8
   exact g2
 ·have h0:j=0:=by omega
  unfold fA.j1;refine mL ?_;exact hk m (hum.heap (.inl h0)) hp
def Vt{i:Nat}(hv:cs[o]?=some (.l b h.length c))(hl:h.length<100000)(hi:i<h.length)(hd:HD h i\/Kids h i)
 (hk:∀h',(qN h'\/h'=h/\Kids h i)->h'.Perm h->T W (Sep.pt r cs::own b h.length c 4 (h'.flatMap dI)::R) (K (.tuple ⟨[]⟩))):
 T W (Sep.pt r cs::own b h.length c 4 (h.flatMap dI)::R) (cW (some ⟨r,o,none⟩) (i:Int) K):=by
 unfold cW;intro w hs;refine⟨λvs w=>∃(j:Nat)(m:List Item),j<h.length/\m.length=h.length/\m.Perm h/\(HD m j\/m=h/\j=i/\Kids h i)/\vs=[.i (j:Int)]/\St W w (Sep.pt r cs::own b h.length c 4 (m.flatMap dI)::R),
  λvs _=>match vs with|[.int _ j]=>h.length-j.toNat|_=>0,⟨i,h,hi,rfl,aem.refl _,hd.imp id λhh=>⟨rfl,rfl,hh⟩,rfl,hs⟩,?_⟩
 rintro n2 w2 ⟨j,m,hj,GB,hp,ED,e,hs⟩;cases e
 have e1:adU.wrap (adU.wrap (2* (j:Int))+1)=((2* j+1:Nat):Int):=by
  have:adU.wrap (2* (j:Int))=2* j:=ar (by omega);rw[this,ar (by omega)];omega
 have e2:adU.wrap (adU.wrap (2* (j:Int))+2)=((2* j+2:Nat):Int):=by
  have:adU.wrap (2* (j:Int))=2* j:=ar (by omega);rw[this,ar (by omega)];omega
 rw[e1];refine⟨λvs w=>∃(k d:Nat),2* j+1<=d/\d<=2* j+3/\(k=j\/0<k/\par k=j/\∃x y,m[k]?=some x/\m[j]?=some y/\bf x y)/\(∀q,0<q->par q=j->q<d->NB m q k)/\k<h.length/\
    vs=[.i (j:Int),.i (k:Int),.i (d:Int)]/\St W w (Sep.pt r cs::own b h.length c 4 (m.flatMap dI)::R),
  λvs _=>match vs with|[_,_,.int _ d]=>2* j+3-d.toNat|_=>0,⟨j,2* j+1,ad4 _,by omega,.inl rfl,(λq h0 hq aZ=>by unfold par at hq;omega),hj,rfl,hs⟩,?_⟩
 rintro n5 n6 n7 w5 ⟨k,d,hd1,PI,XY,u1,UM,e,hs⟩;cases e
 refine T.at ?_ hs;rw[e2];have out:(∀q,0<q->par q=j->NB m q k)->T W (Sep.pt r cs::own b h.length c 4 (m.flatMap dI)::R) (cW.j1 K (some ⟨r,o,none⟩) (λvs w=>∃(j:Nat)(m:List Item),j<h.length/\m.length=h.length/\m.Perm h/\(HD m j\/m=h/\j=i/\Kids h i)/\vs=[.i (j:Int)]/\St W w (Sep.pt r cs::own b h.length c 4 (m.flatMap dI)::R))
                      (λvs _=>match vs with|[.int _ j]=>h.length-j.toNat|_=>0) (j:Int) w2 (j:Int) (k:Int)):=by
  intro fJ;unfold cW.j1;refine bw (λg1=>?_) (λg1=>?_)
  ·have:k=j:=by have:(k:Int)=j:=by simpa using g1
                omega
   subst this;refine hk m ?_ hp;rcases ED with ED|⟨hm,GF,J5⟩
   ·exact .inl (ED.heap fJ)
   ·exact .inr ⟨hm,J5⟩
  ·have gU:k≠j:=by
    intro hh;subst hh;simp at g1
   obtain⟨h0,Q4,x,y,gx,gy,hb⟩:=XY.resolve_left gU;have aaV:HD m j:=by
    rcases ED with ED|⟨hm,GF,J5⟩
    ·exact ED
    ·subst hm;subst GF;exact absurd hb (J5 k h0 Q4 x y gx gy)
   repeat' first|apply ws;intros|apply wb|with_reducible refine jM hv ?_|fail
   refine bR ⟨by omega,by omega⟩ λrb m8=>?_;subst m8;rw[adY];refine dA fe gx ?_
   repeat' first|apply ws;intros|apply wb|with_reducible refine jM hv ?_|fail
   refine pe ⟨by omega,by omega⟩ ?_;rw[adY];refine dA fe gy ?_;refine pe ⟨by omega,by omega⟩ ?_;rw[adY];refine cL rfl (nd fe (by omega) (mE _) ?_);refine pe ⟨by omega,by omega⟩ ?_;rw[adY];refine cL rfl (nd fe (by simp;omega) (mE _) ?_);refine λw3 h3=>⟨⟨k,Qd m j k y x,UM,by rw[Jk];exact GB,(FJ gy gx (λhh=>gU hh.symm)).trans hp,.inl (aaV.step Q4 h0 gy gx hb fJ),rfl,h3⟩,by show h.length-(k:Int).toNat<h.length-(j:Int).toNat;unfold par at Q4;omega⟩
 refine dX (λg1=>?_) (λg1=>?_)
 ·have hle:d<=2* j+2:=by omega
  repeat' first|apply ws;intros|apply wb|with_reducible refine jM hv ?_|fail
  unfold cW.j2;refine dX (λg2=>?_) (λg2=>?_)
  ·have aZ:d<h.length:=by omega
   have gx:=adX (show d<m.length by omega);have gy:=adX (show k<m.length by omega);generalize m[d]=x at gx;generalize hmk:m[k]'(by omega)=y at gy;have hpd:par d=j:=by unfold par;omega
   have e5:=mh d
   repeat' first|apply ws;intros|apply wb|with_reducible refine jM hv ?_|fail
   refine bR ⟨by omega,by omega⟩ λrb hb=>?_;subst hb;rw[adY];refine dA fe gx ?_
   repeat' first|apply ws;intros|apply wb|with_reducible refine jM hv ?_|fail
   refine pe ⟨by omega,by omega⟩ ?_;rw[adY];refine dA fe gy ?_
   repeat' first|apply ws;intros|apply wb|with_reducible first|refine Hb ?_|refine tP hv ?_|fail
   rw[e5];refine dX (λg3=>?_) (λg3=>?_)
   ·have hb:=g3;refine λw3 h3=>⟨⟨d,d+1,by omega,by omega,.inr ⟨by omega,hpd,x,?_⟩,λq h0 hq rW a b' ha ui=>?_,aZ,rfl,h3⟩,by show 2* j+3-((d+1:Nat):Int).toNat<2* j+3-(d:Int).toNat;omega⟩
    ·rcases XY with rfl|⟨h0,Q4,x1,y1,q1,q2,q3⟩
     ·exact⟨y,gx,gy,hb⟩
     ·rw[gy] at q1;cases q1
      exact⟨y1,gx,q2,Ha hb q3⟩
    ·rw[gx] at ui;cases ui
     by_cases hqd:q=d
     ·subst hqd;rw[gx] at ha;cases ha;exact IW x
     ·exact NM (u1 q h0 hq (by omega) a y ha gy) hb
   ·have hb:=g3;refine λw3 h3=>⟨⟨k,d+1,by omega,by omega,XY,λq h0 hq rW=>?_,UM,rfl,h3⟩,by show 2* j+3-((d+1:Nat):Int).toNat<2* j+3-(d:Int).toNat;omega⟩;by_cases hqd:q=d
    ·subst hqd;intro a b' ha ui;rw[gx] at ha;rw[gy] at ui;cases ha;cases ui;exact hb
    ·exact u1 q h0 hq (by omega)
  ·have gF:h.length<=d:=by omega
   refine out λq h0 hq a b' ha ui=>?_;have:=(adZ.1 ha).1;exact u1 q h0 hq (by omega) a b' ha ui
 ·have J6:2* j+2<d:=by omega
  unfold cW.j2;refine mL ?_;exact out λq h0 hq=>u1 q h0 hq (by unfold par at hq;omega)
def K0{z x:Item}{i n:Nat}(hl:h.length=n+1)(hi:i<n)(hz:h[n]?=some z)(hx:h[i]?=some x):(x::(h.set i z).take n).Perm h:=by
 have h1:=uD (y:=z) hx;have h2:h.set i z=(h.set i z).take n++[z]:=by
  conv=>lhs;rw[<-aer n (h.set i z)]
  congr 1
  have:(h.set i z)[n]?=some z:=by rw[aet,if_neg (by omega)];exact hz
  rw[aeD (by simp;omega),aeF (by simp;omega)];rw[adX (by simp;omega)] at this;rw[aeh.inj this]
 rw[h2] at h1;have h3:(x::((h.set i z).take n++[z])).Perm (z::x::(h.set i z).take n):=((ad7 (l₁:=(h.set i z).take n) (l₂:=[z])).cons x).trans (aem.swap _ _ _);exact(List.perm_cons z).1 (h3.symm.trans h1)
def TN{α:Type}{r n c e o:Nat}{l:List α}{x:α}{g:α->LV}{f:HP->LH}[i:o8 (some ⟨r,0,none⟩) n c L e (l.flatMap g) f](hf:∀x,(g x).length=e)(hx:l[o]?=some x)(h:T W L X):T W L (kp ⟨r,o* e,none⟩ (g x) X):=λw hs=>by
 obtain⟨k,hk,_⟩:=i.at_;exact⟨yC hs hk (nU hf l o x hx),h w hs⟩
def T.Qm{A B C D:HP}(h:T W (A::B::C::D::R) X):T W (C::D::A::B::R) X:=T.perm h (ad7 (l₁:=[C,D]) (l₂:=[A,B])|>.append_right R)
def T.SB{A B C:HP}(h:T W (A::B::C::R) X):T W (C::A::B::R) X:=T.perm h (ad7 (l₁:=[C]) (l₂:=[A,B])|>.append_right R)
def T.SC{A B C:HP}(h:T W (A::B::C::R) X):T W (B::C::A::R) X:=T.perm h (ad7 (l₁:=[B,C]) (l₂:=[A])|>.append_right R)
def TJ{i:Nat}{x:Item}(hv:cs[o]?=some (.l b h.length c))(hl:h.length<100000)(hx:h[i]?=some x)(hh:qN h)
 (hk:∀h',qN h'->(x::h').Perm h->T W (Sep.pt r (cs.set o (.l b h'.length c))::own b h'.length c 4 (h'.flatMap dI)::R) (K (.agg ⟨dI x⟩))):
 T W (Sep.pt r cs::own b h.length c 4 (h.flatMap dI)::R) (mC (some ⟨r,o,none⟩) (i:Int) K):=by
 have hi:=(adZ.1 hx).1;obtain⟨n,hn⟩:∃n,h.length=n+1:=⟨h.length-1,by omega⟩;have gz:=adX (show n<h.length by omega);generalize h[n]=z at gz;have e1:adU.wrap ((h.length:Int) -1)=(n:Int):=by rw[ar (by omega)];omega
 unfold mC
 repeat' first|apply ws;intros|apply wb|with_reducible refine jM hv ?_|fail
 refine bR ⟨by omega,by omega⟩ λrb hb=>?_;subst hb;rw[adY];refine dA fe hx ?_
 repeat' first|apply ws;intros|apply wb|with_reducible first|refine jM hv ?_|refine tP hv ?_|fail
 refine TN fe hx ?_
 repeat' first|apply ws;intros|apply wb|with_reducible first|refine jM hv ?_|refine tP hv ?_|fail
 rw[e1];refine pe ⟨by omega,by omega⟩ ?_;rw[adY];refine dA fe gz ?_;refine pe ⟨by omega,by omega⟩ ?_;rw[adY];refine cL rfl (nd fe hi (mE _) ?_)
 repeat' first|apply ws;intros|apply wb|with_reducible first|refine jM hv ?_|refine tP hv ?_|fail
 refine mZ (b:=some ⟨rb,0,none⟩) λqV _=>?_;refine vw (by omega) ?_;refine wv (b:=some ⟨rb,0,none⟩) (i:=n) fe (by omega) ?_
 repeat' first|apply ws;intros|apply wb|with_reducible refine DZ hv rfl ?_|fail
 have yV:=px (v:=.l (some ⟨rb,0,none⟩) n c) hv;refine dX (λg1=>?_) (λg1=>?_)
 ·have aZ:i<n:=by omega
  have hp:=K0 hn aZ gz hx;have GB:((h.set i z).take n).length=n:=by simp;omega
  rename_i r1 r2;refine T.Qm ?_;have key:HD ((h.set i z).take n) i\/HU ((h.set i z).take n) i/\Kids ((h.set i z).take n) i:=by
   by_cases h0:i=0
   ·exact .inl (Jc hh hn aZ gz (.inl h0))
   ·have Mq:par i<h.length:=by unfold par;omega
    have gy:=adX Mq;generalize h[par i]=y at gy;by_cases hb:bf z y
    ·exact .inr (P7 hh hn aZ gz (by omega) gy hb)
    ·refine .inl (Jc hh hn aZ gz (.inr ?_));intro a b' ha m8;have Hx:par i≠i:=by unfold par;omega
     have hpn:par i<n:=by unfold par;omega
     rw[afo,if_pos aZ,aet,if_pos rfl,if_pos hi] at ha;rw[afo,if_pos hpn,aet,if_neg (λh=>Hx h.symm),gy] at m8;cases ha;cases m8;exact hb
  generalize (h.set i z).take n=m at hp GB key;subst GB;refine Vt yV (by omega) aZ (key.imp id (·.2)) λm2 J3 Ey=>?_;apply ws;intros;have Q9:=Ey.length_eq;rw[<-Q9];have Q2:=px (v:=.l (some ⟨rb,0,none⟩) m2.length c) hv;have hu2:HU m2 i:=by
   rcases J3 with J3|⟨rfl,J5⟩
   ·exact J3.hu i
   ·rcases key with k1|k1
    ·exact(k1.heap J5).hu i
    ·exact k1.1
  refine WL Q2 (by omega) (by omega) hu2 λm3 XR hp3=>?_;apply ws;intros;have PE:=hp3.length_eq;have:=hk m3 XR ((hp3.trans Ey).cons x|>.trans hp);rw[PE] at this;exact T.Qm (T.drop (T.drop this))
 ·have Wt:i=n:=by omega
  subst Wt;apply ws;intros;have hm:(h.set i z).take i=h.take i:=by rw[List.take_set_of_le (ad4 _)]
  rw[hm];have GB:(h.take i).length=i:=by simp;omega
  have hh':qN (h.take i):=λj h0 a b' ha m8=>by
   rw[afo] at ha m8;split at ha
   ·split at m8
    ·exact hh j h0 a b' ha m8
    ·cases m8
   ·cases ha
  have:=hk (h.take i) hh' (by
   conv=>rhs;rw[<-aer i h]
   have:h.drop i=[x]:=by
    rw[aeD hi,aeF (by omega)]
    rw[adX hi] at hx
    rw[aeh.inj hx]
   rw[this]
   exact ad7 (l₁:=[x]) (l₂:=h.take i))
  rw[GB] at this;exact T.dp this
def T8{x:Item}(hv:cs[o]?=some (.l b h.length c))(hl:h.length<10000)(hh:qN h)
 (hk:∀b' c' h',qN h'->h'.Perm (h++[x])->T W (Sep.pt r (cs.set o (.l b' h'.length c'))::own b' h'.length c' 4 (h'.flatMap dI)::R) (K (.tuple ⟨[]⟩))):
 T W (Sep.pt r cs::own b h.length c 4 (h.flatMap dI)::R) (iD (some ⟨r,o,none⟩) (dI x) K):=by
 unfold iD;refine qL λr1=>TR ?_
 repeat' first|apply ws;intros|apply wb|with_reducible first|refine jM hv ?_|refine tP hv ?_|fail
 refine hG (x:=x) (by simp) rfl rfl (by omega) (by omega) (mE _) λb' c'=>?_
 repeat' first|apply ws;intros|apply wb|with_reducible first|refine DZ hv rfl ?_|refine jM (px hv) ?_|fail
 rename_i r2;have e1:adU.wrap (((h.length+1:Nat):Int) -1)=(h.length:Int):=by rw[ar (by omega)];omega
 rw[e1];refine T.Qm ?_;have hu:HU (h++[x]) h.length:=by
  refine⟨λj h0 hj a b' ha m8=>?_,λj h0 hp hi a b' ha m8=>?_⟩
  ·have aZ:=(adZ.1 ha).1;simp at aZ;rw[ael (by omega)] at ha;rw[ael (by unfold par;omega)] at m8;exact hh j h0 a b' ha m8
  ·have aZ:=(adZ.1 ha).1;simp at aZ;unfold par at hp;omega
 have yV:=px (v:=.l b' (h.length+1) c') hv;have Hz:(h++[x]).length=h.length+1:=by simp
 rw[<-Hz] at yV⊢;refine WL yV (by omega) (by simp) hu λm hm hp=>?_;apply ws;intros;have:=hk b' c' m hm hp;rw[hp.length_eq] at this;exact T.Qm (T.drop (T.drop this))
def Qy{s:Int}(hv:cs[o]?=some (.l b h.length c))(hl:h.length<10000)(hh:qN h)
 (h1:∀x m,x.ae=s->qN m->(x::m).Perm h->T W (Sep.pt r (cs.set o (.l b m.length c))::own b m.length c 4 (m.flatMap dI)::R) (K (.bool true)))
 (h0:(∀x∈h,x.ae≠s)->T W (Sep.pt r cs::own b h.length c 4 (h.flatMap dI)::R) (K (.bool false))):
 T W (Sep.pt r cs::own b h.length c 4 (h.flatMap dI)::R) (jc (some ⟨r,o,none⟩) s K):=by
 unfold jc;refine tQ ?_
 repeat' first|apply ws;intros|apply wb|with_reducible refine jM hv ?_|fail
 intro w hs;refine⟨λvs w=>∃(i:Nat),i<=h.length/\(∀j x,j<i->h[j]?=some x->x.ae≠s)/\vs=[.bool false,.l b h.length c,.i (h.length:Int),.i (i:Int)]/\St W w (Sep.pt r cs::own b h.length c 4 (h.flatMap dI)::R),
  λvs _=>match vs with|[_,_,_,.int _ d]=>h.length-d.toNat|_=>0,⟨0,ad6 _,(λj x hj=>by omega),rfl,hs⟩,?_⟩
 rintro b1 uG pY uF n2 n3 w2 ⟨i,hi,EA,e,hs⟩;cases e
 refine T.at ?_ hs;refine dX (λg1=>?_) (λg1=>?_)
 ·have aZ:i<h.length:=by omega
  have gx:=adX aZ;generalize h[i]=x at gx;have e5:=mh i;refine bR ⟨by omega,by omega⟩ λrb hb=>?_;subst hb;rw[adY];refine dA fe gx ?_;apply ws;intros;rename_i r1;rw[e5];refine bw (λg2=>?_) (λg2=>?_)
  ·refine T.SB ?_;refine TJ hv (by omega) gx hh λm hm hp=>?_;apply ws;intros;refine T.SC (T.drop ?_);exact h1 x m (by simpa using g2) hm hp
  ·refine T.drop λw3 h3=>⟨⟨i+1,aZ,λj y hj hy=>?_,rfl,h3⟩,by show h.length-((i+1:Nat):Int).toNat<h.length-(i:Int).toNat;omega⟩;by_cases GF:j=i
   ·subst GF;rw[gx] at hy;cases hy;simpa using g2
   ·exact EA j y (by omega) hy
 ·have gF:i=h.length:=by omega
  refine h0 λx hx=>?_;obtain⟨j,hj⟩:=aff hx;exact EA j x (by have:=(adZ.1 hj).1;omega) hj
end
class PU{α β:Type}(P:α->HP)(Q:β->HP)(L:LH)(x:outParam α)(y:outParam β)(F:outParam (α->β->LH)):Prop where
 at_:∃R:LH,L.Perm (P x::Q y::R)/\∀x' y',(F x' y').Perm (P x'::Q y'::R)
section
variable {α β:Type} {P:α->HP} {Q:β->HP} {L:LH} {x:α} {y:β}
def Lc.perm{f:α->LH}(h:Lc P L x f):∃R:LH,L.Perm (P x::R)/\∀x',(f x').Perm (P x'::R):=by
 obtain⟨k,h1,h2⟩:=h.at_;exact⟨L.eraseIdx k,o0 h1,λy=>by rw[h2];exact(set_perm h1).symm⟩
instance(priority:=low) PU.tail{A:HP}{F:α->β->LH}[h:PU P Q L x y F]:PU P Q (A::L) x y (λa b=>A::F a b):=by
 obtain⟨R,h1,h2⟩:=h.at_;exact⟨A::R,(h1.cons A).trans ((aem.swap _ _ _).trans ((aem.swap _ _ _).cons _)),λa b=>((h2 a b).cons A).trans ((aem.swap _ _ _).trans ((aem.swap _ _ _).cons _))⟩
instance PU.ado{f:α->LH}[h:Lc P L x f]:PU P Q (Q y::L) x y (λa b=>Q b::f a):=by
 obtain⟨R,h1,h2⟩:=h.perm;exact⟨R,(h1.cons _).trans (aem.swap _ _ _),λa b=>((h2 a).cons _).trans (aem.swap _ _ _)⟩
def zO{W:World}{X:WK}{F:α->β->LH}[i:PU P Q L x y F](h:∀R,(∀M a b Y,T W (M++F a b) Y->T W (M++P a::Q b::R) Y)->T W (P x::Q y::R) X):T W L X:=by
 obtain⟨R,h1,h2⟩:=i.at_;exact T.perm (h R λM a b Y hy=>T.perm hy ((h2 a b).symm.append_left M)) h1
end
def St.oF{W w:World}:∀(M R:LH),St W w (zq M::R)->St W w (M++R)
 |[],R,h=>h.drop
 |A::M,R,h=>(St.oF M (A::R) (h.split.perm (aem.swap _ _ _))).perm ae'
def St.ng{W w:World}:∀(M R:LH),St W w (M++R)->St W w (zq M::R)
 |[],R,h=>h.push trivial
 |A::M,R,h=>St.join ((St.ng M (A::R) (h.perm ae'.symm)).perm (aem.swap _ _ _))
structure Core where
 la:Nat
 lk:Nat
 ti:Nat
 tn:Nat
 vs:LV
 stamps:List kq
 ends:List Item
 clock:Int
 ae:Int
def fy(q:Core)(b1:OA)(c1:Nat)(b2:OA)(c2:Nat)(b3:OA)(n3 c3:Nat):LV:=
 [.l b1 q.vs.length c1,.p (some (ad q.la 0)),.p (some (ad q.lk 0)),.p (some (ad q.ti 0)),.p (some (ad q.tn 0)),.l b2 q.stamps.length c2,.l b3 n3 c3,.i q.clock,.i q.ae]
def coreS(p:Nat)(q:Core)(b1:OA)(c1:Nat)(b2:OA)(c2:Nat)(b3:OA)(c3:Nat)(h:List Item):LH:=
 [Sep.pt p (fy q b1 c1 b2 c2 b3 h.length c3),own b1 q.vs.length c1 1 q.vs,own b2 q.stamps.length c2 2 (q.stamps.flatMap lD),own b3 h.length c3 4 (h.flatMap dI)]
def dP(p:Nat)(q:Core):HP:=
 Te λz:(OA×Nat)×(OA×Nat)×(OA×Nat)×List Item=>L7 (qN z.2.2.2/\z.2.2.2.Perm q.ends) (zq (coreS p q z.1.1 z.1.2 z.2.1.1 z.2.1.2 z.2.2.1.1 z.2.2.1.2 z.2.2.2))
def uv(q:Core)(o:Nat):Option Value:=match o with
 |1=>some (.p (some (ad q.la 0)))
 |2=>some (.p (some (ad q.lk 0)))
 |3=>some (.p (some (ad q.ti 0)))
 |4=>some (.p (some (ad q.tn 0)))
 |7=>some (.i q.clock)
 |8=>some (.i q.ae)
 |_=>none
section
variable {W:World} {L:LH} {K:VK} {X:WK} {p o:Nat} {q:Core} {f:Core->LH} {v:Value}
def DO{R:LH}(hx:∀b1 c1 b2 c2 b3 c3 h,qN h->h.Perm q.ends->T W (Sep.pt p (fy q b1 c1 b2 c2 b3 h.length c3)::own b1 q.vs.length c1 1 q.vs::own b2 q.stamps.length c2 2 (q.stamps.flatMap lD)::own b3 h.length c3 4 (h.flatMap dI)::R) X):T W (dP p q::R) X:=λw hs=>by
 obtain⟨⟨⟨b1,c1⟩,⟨b2,c2⟩,⟨b3,c3⟩,hp⟩,hs⟩:=hs.ex;obtain⟨⟨h1,h2⟩,hs⟩:=hs.and;exact hx b1 c1 b2 c2 b3 c3 hp h1 h2 w (St.oF _ _ hs)
def vR{R:LH}{b1:OA}{c1:Nat}{b2:OA}{c2:Nat}{b3:OA}{c3:Nat}{h:List Item}(h1:qN h)(h2:h.Perm q.ends)(hx:T W (dP p q::R) X):T W (Sep.pt p (fy q b1 c1 b2 c2 b3 h.length c3)::own b1 q.vs.length c1 1 q.vs::own b2 q.stamps.length c2 2 (q.stamps.flatMap lD)::own b3 h.length c3 4 (h.flatMap dI)::R) X:=λw hs=>
 hx w (St.nV ((b1,c1),(b2,c2),(b3,c3),h) (St.and_intro ⟨h1,h2⟩ (St.ng _ _ hs)))
def zN{α:Type}{P:α->HP}{a:α}{f:α->LH}[i:Lc P L a f](h:∀R,(∀M y Y,T W (M++f y) Y->T W (M++P y::R) Y)->T W (P a::R) X):T W L X:=by
 obtain⟨R,h1,h2⟩:=i.perm;exact T.perm (h R λM y Y hy=>T.perm hy ((h2 y).symm.append_left M)) h1
def T.Ea{R:LH}{A B C:HP}(h:T W (A::C::B::R) X):T W (A::B::C::R) X:=T.perm h ((aem.swap _ _ _).cons _)
def T.H0{R:LH}{A B C D:HP}(h:T W (A::D::B::C::R) X):T W (A::B::C::D::R) X:=T.perm h ((ad7 (l₁:=[B,C]) (l₂:=[D])|>.append_right R).cons _)
def T.AN{R:LH}{A B C D:HP}(h:T W (A::B::C::D::R) X):T W (A::D::B::C::R) X:=T.perm h ((ad7 (l₁:=[D]) (l₂:=[B,C])|>.append_right R).cons _)
def mK[i:Lc (dP p) L q f](hx:∀b1 c1 b2 c2 b3 c3 h R,qN h->h.Perm q.ends->
 (∀M q' b1 c1 b2 c2 b3 c3 h Y,qN h->h.Perm q'.ends->T W (M++f q') Y->T W (M++Sep.pt p (fy q' b1 c1 b2 c2 b3 h.length c3)::own b1 q'.vs.length c1 1 q'.vs::own b2 q'.stamps.length c2 2 (q'.stamps.flatMap lD)::own b3 h.length c3 4 (h.flatMap dI)::R) Y)->T W (Sep.pt p (fy q b1 c1 b2 c2 b3 h.length c3)::own b1 q.vs.length c1 1 q.vs::own b2 q.stamps.length c2 2 (q.stamps.flatMap lD)::own b3 h.length c3 4 (h.flatMap dI)::R) X):T W L X:=
 zN (P:=dP p) λR hc=>DO λb1 c1 b2 c2 b3 c3 h h1 h2=>hx b1 c1 b2 c2 b3 c3 h R h1 h2 λM q' b1 c1 b2 c2 b3 c3 h Y g1 g2 hy=>
  T.perm (vR (R:=M++R) g1 g2 (T.perm (hc M q' Y hy) (ae'.symm))) (by
   have:=ad7 (l₁:=M) (l₂:=[Sep.pt p (fy q' b1 c1 b2 c2 b3 h.length c3),own b1 q'.vs.length c1 1 q'.vs,own b2 q'.stamps.length c2 2 (q'.stamps.flatMap lD),own b3 h.length c3 4 (h.flatMap dI)])|>.append_right R
   simpa using this)
def xp{b1:OA}{c1:Nat}{b2:OA}{c2:Nat}{b3:OA}{c3 n:Nat}(hv:uv q o=some v):(fy q b1 c1 b2 c2 b3 n c3)[o]?=some v:=by
 unfold uv at hv;split at hv<;>first|exact hv|cases hv
def WW[i:Lc (dP p) L q f](hv:uv q o=some v)(h:T W L (K v)):T W L (ld ⟨p,o,none⟩ K):=by
 have hL:f q=L:=i.same;refine mK (p:=p) λb1 c1 b2 c2 b3 c3 hp R h1 h2 hc=>?_;refine jM (r:=p) (xp hv) ?_;exact hc [] q _ _ _ _ _ _ _ _ h1 h2 (by rw[hL];exact h)
def WX[i:Lc (dP p) L q f](hv:uv q o=some v)(h:T W L X):T W L (kp ⟨p,o,none⟩ [v] X):=by
 have hL:f q=L:=i.same;refine mK (p:=p) λb1 c1 b2 c2 b3 c3 hp R h1 h2 hc=>?_;refine tP (r:=p) (xp hv) ?_;exact hc [] q _ _ _ _ _ _ _ _ h1 h2 (by rw[hL];exact h)
class Gc(q:Core)(o:Nat)(v:outParam Value):Prop where
 is:uv q o=some v
instance:Gc q 1 (.p (some (ad q.la 0))):=⟨rfl⟩
instance:Gc q 2 (.p (some (ad q.lk 0))):=⟨rfl⟩
instance:Gc q 3 (.p (some (ad q.ti 0))):=⟨rfl⟩
instance:Gc q 4 (.p (some (ad q.tn 0))):=⟨rfl⟩
instance:Gc q 7 (.i q.clock):=⟨rfl⟩
instance:Gc q 8 (.i q.ae):=⟨rfl⟩
instance[i:Lc (dP p) L q f][g:Gc q o v]:Lv L p o v:=⟨λh=>WW (i:=i) g.is h,λh=>WX (i:=i) g.is h⟩
def HN[i:Lc (dP p) L q f]{t:Int}(h:T W (f {q with clock:=t}) X):T W L (st ⟨p,7,none⟩ (.i t) X):=by
 refine mK (p:=p) λb1 c1 b2 c2 b3 c3 hp R h1 h2 hc=>?_;unfold fy;apply ws;intros;exact hc [] {q with clock:=t} _ _ _ _ _ _ _ _ h1 h2 h
def HM[i:Lc (dP p) L q f]{t:Int}(h:T W (f {q with ae:=t}) X):T W L (st ⟨p,8,none⟩ (.i t) X):=by
 refine mK (p:=p) λb1 c1 b2 c2 b3 c3 hp R h1 h2 hc=>?_;unfold fy;apply ws;intros;exact hc [] {q with ae:=t} _ _ _ _ _ _ _ _ h1 h2 h
def rG[i:Lc (dP p) L q f](hl:q.vs.length<1000000)(h1v:v.oneCell'=true)(hcv:cU v=[v])(h:T W (f {q with vs:=q.vs++[v]}) (K (.tuple ⟨[]⟩))):T W L (eu (some ⟨p,0,none⟩) v K):=by
 refine mK (p:=p) λb1 c1 b2 c2 b3 c3 hp R h1 h2 hc=>?_;unfold eu fy;rw[hcv];apply ws;intros;refine M' (ys:=[v]) (n:=q.vs.length) (bytes:=8) rfl rfl (by omega) (λu hu=>by simp at hu;rw[hu];exact h1v) (λb' c'=>?_) (by omega);apply ws;intros;have:=hc [] {q with vs:=q.vs++[v]} b' c' b2 c2 b3 c3 hp _ h1 h2 h;unfold fy at this;simp only[ad0,afk] at this;exact T.drop this
def VU[i:Lc (dP p) L q f](h:T W L (K (.i (q.vs.length:Int)))):T W L (oV (some ⟨p,0,none⟩) K):=by
 have hL:f q=L:=i.same;refine mK (p:=p) λb1 c1 b2 c2 b3 c3 hp R h1 h2 hc=>?_;unfold oV fy;apply ws;intros;exact hc [] q _ _ _ _ _ _ _ _ h1 h2 (by rw[hL];exact h)
def Kf[i:Lc (dP p) L q f]{s a:Int}(hr:oT q.stamps)(hl:q.stamps.length<1099511627)(hs:∀x∈q.stamps,x.1<s)(h:T W (f {q with stamps:=q.stamps++[(s,a)]}) (K (.bool true))):T W L (fB (some ⟨p,5,none⟩) s a K):=by
 refine mK (p:=p) λb1 c1 b2 c2 b3 c3 hp R h1 h2 hc=>?_;refine T.Ea ?_;refine Ua rfl hr hl hs λb' c'=>?_;refine T.Ea ?_;have:=hc [] {q with stamps:=q.stamps++[(s,a)]} b1 c1 b' c' b3 c3 hp _ h1 h2 h;simp only[fy,ad0,afk] at this;exact this
def OH[i:Lc (dP p) L q f]{s a:Int}{l0:List kq}(hr:oT q.stamps)(hl:q.stamps.length<1099511627)(hs:q.stamps=l0++[(s,a)])(h:T W (f {q with stamps:=l0}) (K (.bool true))):T W L (fI (some ⟨p,5,none⟩) s K):=by
 refine mK (p:=p) λb1 c1 b2 c2 b3 c3 hp R h1 h2 hc=>?_;refine T.Ea ?_;refine QC rfl hr hl hs λb' c'=>?_;refine T.Ea ?_;exact hc [] {q with stamps:=l0} b1 c1 b' c' b3 c3 hp _ h1 h2 h
def LY[i:Lc (dP p) L q f]{from_ to:Int}{uS:Bool}(hr:oT q.stamps)(hl:q.stamps.length<100000)
 (h:∀b' c' out,out=(if uS then(mM from_ to q.stamps).reverse else mM from_ to q.stamps)->T W (own b' out.length c' 2 (out.flatMap lD)::L) (K (.l b' out.length c'))):T W L (dm (some ⟨p,5,none⟩) from_ to uS K):=by
 have hL:f q=L:=i.same;refine mK (p:=p) λb1 c1 b2 c2 b3 c3 hp R h1 h2 hc=>?_;refine NI (b:=b2) (c:=c2) rfl hr hl λb' c' out ho=>?_;exact hc [_] q b1 c1 b2 c2 b3 c3 hp _ h1 h2 (by rw[hL];exact h b' c' out ho)
def ET[i:Lc (dP p) L q f]{x:Item}{e':List Item}(hl:q.ends.length<10000)(he:e'.Perm (q.ends++[x]))(h:T W (f {q with ends:=e'}) (K (.tuple ⟨[]⟩))):T W L (iD (some ⟨p,6,none⟩) (dI x) K):=by
 refine mK (p:=p) λb1 c1 b2 c2 b3 c3 hp R h1 h2 hc=>?_;refine T.H0 ?_;refine T8 rfl (by rw[h2.length_eq];exact hl) h1 λb' c' h' g1 g2=>?_;refine T.AN ?_;exact hc [] {q with ends:=e'} b1 c1 b2 c2 b' c' h' _ g1 (g2.trans ((h2.append_right _).trans he.symm)) h
def G2[i:Lc (dP p) L q f]{s:Int}(hl:q.ends.length<10000)
 (h1:∀x e',x.ae=s->(x::e').Perm q.ends->T W (f {q with ends:=e'}) (K (.bool true)))(h0:(∀x∈q.ends,x.ae≠s)->T W L (K (.bool false))):T W L (jc (some ⟨p,6,none⟩) s K):=by
 have hL:f q=L:=i.same;rw[<-hL] at h0;refine mK (p:=p) λb1 c1 b2 c2 b3 c3 hp R g1 g2 hc=>?_;refine T.H0 ?_;refine Qy rfl (by rw[g2.length_eq];exact hl) g1 (λx m hx hm hpm=>?_) (λEA=>?_)
 ·refine T.AN ?_;exact hc [] {q with ends:=m} b1 c1 b2 c2 b3 c3 m _ hm (aem.refl _) (h1 x m hx (hpm.trans g2))
 ·refine T.AN ?_;exact hc [] q b1 c1 b2 c2 b3 c3 hp _ g1 g2 (h0 λx hx=>EA x (g2.mem_iff.2 hx))
end
def ff(a:aO):(ak a).length=14:=rfl
def rS(k:Kept):(aI k).length=33:=rfl
section
variable {x1 x2 x3 x4 x5 x6 x7 x8 x9 zL zJ zH zG CF Hs Hr PX PW Tz Ty Tx Tw Tv Tu Tt Ts Tr Tq x29 x30 x31 x32 x33:Value} {k k':Kept} {i:Int} {m t:Move}
def zK:Kept:=⟨zT,zT,0⟩
instance:Wr [x1,x2,x3,x4,x5,x6,x7,x8,x9,zL,zJ,zH,zG,CF,Hs,Hr,PX,PW,Tz,Ty,Tx,Tw,Tv,Tu,Tt,Ts,Tr,Tq,x29,x30,x31,x32,x33] 0 (aI k) (aI k):=⟨rfl,ad4 _,jl k⟩
instance:Wr (aI k) 0 (aI k') (aI k'):=⟨rfl,ad4 _,jl k'⟩
instance:Wr [x1,x2,x3,x4,x5,x6,x7,x8,x9,zL,zJ,zH,zG,CF,Hs,Hr,PX,PW,Tz,Ty,Tx,Tw,Tv,Tu,Tt,Ts,Tr,Tq,x29,x30,x31,x32,x33] 0 [.u 0,.u 0,.u 0,.u 0,.u 0,.u 0,.u 0,.u 0,.u 0,.u 0,.i 0,.i 0,.i 0,.i 0,.i 0,.i 0,.u 0,.u 0,.u 0,.u 0,.u 0,.u 0,.u 0,.u 0,.u 0,.u 0,.i 0,.i 0,.i 0,.i 0,.i 0,.i 0,.i 0] (aI zK):=⟨rfl,ad4 _,jl zK⟩
instance:Wr (aI k) 32 [.i i] (aI {k with fate:=i}):=⟨rfl,by show 33<=33;decide,λv h=>by simp at h;subst h;rfl⟩
instance:Wr (aI k) 30 [.i i] (aI {k with move:={k.move with ae:=i}}):=⟨rfl,by show 31<=33;decide,λv h=>by simp at h;subst h;rfl⟩
instance:Wr (aI k) 31 [.i i] (aI {k with move:={k.move with born:=i}}):=⟨rfl,by show 32<=33;decide,λv h=>by simp at h;subst h;rfl⟩
instance:Sub (aI k) 16 2 (nm k.move.id):=⟨uZ rfl rfl⟩
instance:Wr [x1,x2,x3,x4,x5,x6,x7,x8,x9,zL,zJ,zH,zG,CF,Hs,Hr,PX,PW,Tz,Ty,Tx,Tw,Tv,Tu,Tt,Ts,Tr,Tq,x29,x30,x31,x32,x33] 0 (aj m++(aj t++[.i i])) (aI ⟨m,t,i⟩):=⟨rfl,ad4 _,jl ⟨m,t,i⟩⟩
end
class PT(M L:LH):Prop where
 is:M.Sublist L
instance{L:LH}:PT L L:=⟨aeb.refl _⟩
instance(priority:=low){M L:LH}{A:HP}[h:PT M L]:PT M (A::L):=⟨h.is.cons A⟩
instance{M L:LH}{A:HP}[h:PT M L]:PT (A::M) (A::L):=⟨h.is.cons_cons A⟩
instance{R L:LH}[h:PT R L]:PT ([]++R) L:=⟨h.is⟩
instance{M R L:LH}{A:HP}[h:PT (A::(M++R)) L]:PT (A::M++R) L:=⟨h.is⟩
def lW{M L:LH}[h:PT M L]:M.Sublist L:=h.is
def T.sub{W:World}{L M:LH}{X:WK}(h:T W M X)(s:M.Sublist L):T W L X:=by
 obtain⟨D,hD⟩:=s.exists_perm_append;have key:∀(D:LH),T W (D++M) X:=λD=>by
  induction D with
  |nil=>exact h
  |cons A D ih=>exact T.drop ih
 exact T.perm (key D) (hD.trans ad7)
def ox{α:Type}(g:α->LV)(e l:Nat)(x:Nat×List α):HP:=
 Te λz:OA×Nat=>zq [Sep.pt l [.l z.1 x.2.length z.2,.p (some (ad x.1 0))],own z.1 x.2.length z.2 e (x.2.flatMap g)]
def nL{W:World}{L:LH}{α:Type}{b b':OA}{n c m c1 e bytes:Nat}{zero:LV}{l0 l1:List α}{g:α->LV}{f f':HP->LH}{K:OA->Nat->Nat->WK}[i:o8 b n c L e (l0.flatMap g) f][j:o8 b' m c1 L e (l1.flatMap g) f'](hg:∀x,(g x).length=e)(hz:zero.length=e)
 (hb:(n+m)* bytes<=140737488355328/\n+m<=9223372036854775807)(h1:∀x,∀v∈g x,v.oneCell'=true)(h:∀b2 c2,T W (f (own b2 (n+m) c2 e ((l0++l1).flatMap g))) (K b2 (n+m) c2)):T W L (eW e bytes zero b n c b' m K):=λw hs=>by
 obtain⟨k,hk,e1⟩:=i.at_;obtain⟨k2,rz,_⟩:=j.at_;obtain⟨vK,kR⟩:=Kr (m:=m) hs rz;refine qj hs hk vK kR hz hb.1 hb.2 (λv hv=>?_) λb2 c2 w' h'=>h b2 c2 w' (by rw[e1,aeV];exact h');obtain⟨x,_,hx⟩:=List.mem_flatMap.1 hv;exact h1 x v hx
section
variable {W:World} {L R:LH} {K:VK} {X:WK} {α:Type} {g:α->LV} {e l p:Nat} {items:List α} {f:Nat×List α->LH}
def nP(h:∀b c,T W (Sep.pt l [.l b items.length c,.p (some (ad p 0))]::own b items.length c e (items.flatMap g)::R) X):T W (ox g e l (p,items)::R) X:=λw hs=>by
 obtain⟨⟨b,c⟩,hs⟩:=hs.ex;exact h b c w (St.oF _ _ hs)
def qb{b:OA}{n c:Nat}(hn:n=items.length)(h:T W (ox g e l (p,items)::R) X):T W (Sep.pt l [.l b n c,.p (some (ad p 0))]::own b n c e (items.flatMap g)::R) X:=λw hs=>by
 subst hn;exact h w (St.nV (b,c) (St.ng _ _ hs))
def sJ{M:LH}{b:OA}{n c:Nat}(hn:n=items.length)(h:T W (M++ox g e l (p,items)::R) X):T W (M++Sep.pt l [.l b n c,.p (some (ad p 0))]::own b n c e (items.flatMap g)::R) X:=
 T.perm (qb (g:=g) (e:=e) (l:=l) (p:=p) (R:=M++R) hn (T.perm h ae'.symm)) (by
  have:=ad7 (l₁:=M) (l₂:=[Sep.pt l [.l b n c,.p (some (ad p 0))],own b n c e (items.flatMap g)])|>.append_right R
  simpa using this)
def CO[i:Lc (ox g e l) L (p,items) f](h:∀b c R,(∀M b' n' c' Bm Y,n'=Bm.length->T W (M++f (p,Bm)) Y->T W (M++Sep.pt l [.l b' n' c',.p (some (ad p 0))]::own b' n' c' e (Bm.flatMap g)::R) Y)->
 T W (Sep.pt l [.l b items.length c,.p (some (ad p 0))]::own b items.length c e (items.flatMap g)::R) X):T W L X:=
 zN (P:=ox g e l) λR hc=>nP λb c=>h b c R λM b' n' c' Bm Y hn hy=>
  T.perm (qb (g:=g) (e:=e) (l:=l) (p:=p) (R:=M++R) hn (T.perm (hc M _ Y hy) ae'.symm)) (by
   have:=ad7 (l₁:=M) (l₂:=[Sep.pt l [.l b' n' c',.p (some (ad p 0))],own b' n' c' e (Bm.flatMap g)])|>.append_right R
   simpa using this)
end
section
variable {W:World} {L R:LH} {K:VK} {X:WK} {l p:Nat} {items:List aO} {f:Nat×List aO->LH} {F:Nat×List aO->Core->LH} {q:Core} {x y:aO}
def I7[i:Lc (ox ak 14 l) L (p,items) f](h:T W L (K (.i (items.length:Int)))):T W L (dg (some ⟨l,0,none⟩) K):=by
 have hL:f (p,items)=L:=i.same;refine CO (g:=ak) (e:=14) (l:=l) λb c R hc=>?_;unfold dg;apply ws;intros;exact hc [] _ _ _ _ _ rfl (by rw[hL];exact h)
def Pt{b:OA}{c:Nat}{v:Value}{n:Nat}{f1:LV->LH}{f2:HP->LH}[i:Lc (Sep.pt l) L [.l b items.length c,v] f1][j:o8 b items.length c L 14 (items.flatMap ak) f2](hx:items[n]?=some x)(hl:items.length<1000000)
 (h:T W L (K (.tuple ⟨[.agg ⟨ak x⟩,.bool true]⟩))):T W L (bV (some ⟨l,0,none⟩) (n:Int) K):=by
 have aZ:=(adZ.1 hx).1;unfold bV;apply ws;intros;refine dO (by simp) ?_;unfold dg;apply ws;intros;unfold bV.j1;refine dO (by simp;omega) ?_;apply ws;intros;refine bR ⟨by omega,by omega⟩ λr hr=>?_;subst hr;rw[adY];refine dA ff hx ?_;apply ws;intros;exact T.dp h
def ZE[i:Lc (ox ak 14 l) L (p,items) f]{n:Nat}(hx:items[n]?=some x)(hl:items.length<1000000)(h:T W L (K (.tuple ⟨[.agg ⟨ak x⟩,.bool true]⟩))):T W L (bV (some ⟨l,0,none⟩) (n:Int) K):=by
 have hL:f (p,items)=L:=i.same;refine CO (g:=ak) (e:=14) (l:=l) λb c R hc=>?_;refine Pt hx hl ?_;exact hc [] _ _ _ _ _ rfl (by rw[hL];exact h)
abbrev xt(r1 r3:Nat):Value:=.func (.func N.aY) ⟨[]⟩ ⟨[.p (some (ad r1 0)),.p (some (ad r3 0))]⟩
abbrev Ag(r4 r1 r2:Nat):Value:=.func (.func N.aX) ⟨[]⟩ ⟨[.p (some (ad r4 0)),.p (some (ad r1 0)),.p (some (ad r2 0))]⟩
def Pu[i:Lc (ox ak 14 l) L (p,items) f][j:PU (ox ak 14 l) (dP p) L (p,items) q F](hl:items.length<1000000)(hv:q.vs.length<1000000)
 (h:∀r1 r3,T W (Sep.pt r3 [.i (items.length:Int)]::Sep.pt r1 [.p (some (ad l 0))]::F (p,items++[x]) {q with vs:=q.vs++[xt r1 r3]}) (K (.i (items.length:Int)))):
 T W L (fh (some ⟨l,0,none⟩) (ak x) K):=by
 refine zO (P:=ox ak 14 l) (Q:=dP p) λR hc=>?_;refine nP λb c=>?_;unfold fh;apply ws;intros;refine hG (x:=x) (by simp) rfl rfl (by omega) (by omega) (eX _) λb' c'=>?_;apply ws;intros;refine rG (p:=p) hv rfl rfl ?_;apply ws;intros;rename_i r1 r2 r3 r4;refine T.sub (M:=[Sep.pt r3 _,Sep.pt r1 _]++Sep.pt l _::own b' _ c' 14 _::dP p _::R) ?_ (by repeat (first|exact aeb.refl _|apply aeb.cons_cons|apply aeb.cons));exact sJ (by simp) (hc [_,_] _ _ _ (h r1 r3))
def V5[i:Lc (ox ak 14 l) L (p,items) f][j:PU (ox ak 14 l) (dP p) L (p,items) q F]{n:Nat}(hx:items[n]?=some y)(hl:items.length<1000000)(hv:q.vs.length<1000000)
 (h:∀r4 r1 r2,T W (Sep.pt r4 (ak y)::Sep.pt r2 [.i (n:Int)]::Sep.pt r1 [.p (some (ad l 0))]::F (p,items.set n x) {q with vs:=q.vs++[Ag r4 r1 r2]}) (K (.bool true))):
 T W L (gG (some ⟨l,0,none⟩) (n:Int) (ak x) K):=by
 have aZ:=(adZ.1 hx).1;refine zO (P:=ox ak 14 l) (Q:=dP p) λR hc=>?_;refine nP λb c=>?_;unfold gG
 repeat' first|apply ws;intros|apply wb|with_reducible refine Pt hx hl ?_|fail
 refine bR ⟨by omega,by omega⟩ λr hr=>?_;subst hr;rw[adY];refine cL rfl (nd ff aZ (eX _) ?_);apply ws;intros;refine rG (p:=p) hv rfl rfl ?_;apply ws;intros;rename_i r1 r2 r3 r4;refine T.sub (M:=[Sep.pt r4 _,Sep.pt r2 _,Sep.pt r1 _]++Sep.pt l _::own (some ⟨r,0,none⟩) _ c 14 _::dP p _::R) ?_ (by repeat (first|exact aeb.refl _|apply aeb.cons_cons|apply aeb.cons));exact sJ (by simp) (hc [_,_,_] _ _ _ (h r4 r1 r2))
def V6[i:Lc (ox ak 14 l) L (p,items) f](hl:items.length<1000000)(h:∀b c,T W (own b items.length c 14 (items.flatMap ak)::L) (K (.l b items.length c))):T W L (gH (some ⟨l,0,none⟩) K):=by
 have hL:f (p,items)=L:=i.same;refine CO (g:=ak) (e:=14) (l:=l) λb c R hc=>?_;unfold gH;apply ws;intros;refine eY (e:=14) ?_;refine nL (b:=none) (l0:=([]:List aO)) (l1:=items) ff rfl (by omega) eX λb' c'=>?_;have:=hc [own b' items.length c' 14 (items.flatMap ak)] b items.length c items _ rfl (by rw[hL];exact h b' c');simpa using this
end
section
variable {W:World} {L R:LH} {K:VK} {X:WK} {l p:Nat} {items:List Kept} {f:Nat×List Kept->LH} {F:Nat×List Kept->Core->LH} {q:Core} {x y:Kept}
def I2[i:Lc (ox aI 33 l) L (p,items) f](h:T W L (K (.i (items.length:Int)))):T W L (dv (some ⟨l,0,none⟩) K):=by
 have hL:f (p,items)=L:=i.same;refine CO (g:=aI) (e:=33) (l:=l) λb c R hc=>?_;unfold dv;apply ws;intros;exact hc [] _ _ _ _ _ rfl (by rw[hL];exact h)
def Pk{b:OA}{c:Nat}{v:Value}{n:Nat}{f1:LV->LH}{f2:HP->LH}[i:Lc (Sep.pt l) L [.l b items.length c,v] f1][j:o8 b items.length c L 33 (items.flatMap aI) f2](hx:items[n]?=some x)(hl:items.length<1000000)
 (h:T W L (K (.tuple ⟨[.agg ⟨aI x⟩,.bool true]⟩))):T W L (bT (some ⟨l,0,none⟩) (n:Int) K):=by
 have aZ:=(adZ.1 hx).1;unfold bT;apply ws;intros;refine dO (by simp) ?_;unfold dv;apply ws;intros;unfold bT.j1;refine dO (by simp;omega) ?_;apply ws;intros;refine bR ⟨by omega,by omega⟩ λr hr=>?_;subst hr;rw[adY];refine dA rS hx ?_;apply ws;intros;exact T.dp h
def Pj[i:Lc (ox aI 33 l) L (p,items) f]{n:Nat}(hx:items[n]?=some x)(hl:items.length<1000000)(h:T W L (K (.tuple ⟨[.agg ⟨aI x⟩,.bool true]⟩))):T W L (bT (some ⟨l,0,none⟩) (n:Int) K):=by
 have hL:f (p,items)=L:=i.same;refine CO (g:=aI) (e:=33) (l:=l) λb c R hc=>?_;refine Pk hx hl ?_;exact hc [] _ _ _ _ _ rfl (by rw[hL];exact h)
abbrev ra(r1 r3:Nat):Value:=.func (.func N.bq) ⟨[]⟩ ⟨[.p (some (ad r1 0)),.p (some (ad r3 0))]⟩
abbrev xr(r4 r1 r2:Nat):Value:=.func (.func N.bp) ⟨[]⟩ ⟨[.p (some (ad r4 0)),.p (some (ad r1 0)),.p (some (ad r2 0))]⟩
def Pm[i:Lc (ox aI 33 l) L (p,items) f][j:PU (ox aI 33 l) (dP p) L (p,items) q F](hl:items.length<1000000)(hv:q.vs.length<1000000)
 (h:∀r1 r3,T W (Sep.pt r3 [.i (items.length:Int)]::Sep.pt r1 [.p (some (ad l 0))]::F (p,items++[x]) {q with vs:=q.vs++[ra r1 r3]}) (K (.i (items.length:Int)))):
 T W L (fV (some ⟨l,0,none⟩) (aI x) K):=by
 refine zO (P:=ox aI 33 l) (Q:=dP p) λR hc=>?_;refine nP λb c=>?_;unfold fV;apply ws;intros;refine hG (x:=x) (by simp) rfl rfl (by omega) (by omega) (jl _) λb' c'=>?_;apply ws;intros;refine rG (p:=p) hv rfl rfl ?_;apply ws;intros;rename_i r1 r2 r3 r4;refine T.sub (M:=[Sep.pt r3 _,Sep.pt r1 _]++Sep.pt l _::own b' _ c' 33 _::dP p _::R) ?_ (by repeat (first|exact aeb.refl _|apply aeb.cons_cons|apply aeb.cons));exact sJ (by simp) (hc [_,_] _ _ _ (h r1 r3))
def VY[i:Lc (ox aI 33 l) L (p,items) f][j:PU (ox aI 33 l) (dP p) L (p,items) q F]{n:Nat}(hx:items[n]?=some y)(hl:items.length<1000000)(hv:q.vs.length<1000000)
 (h:∀r4 r1 r2,T W (Sep.pt r4 (aI y)::Sep.pt r2 [.i (n:Int)]::Sep.pt r1 [.p (some (ad l 0))]::F (p,items.set n x) {q with vs:=q.vs++[xr r4 r1 r2]}) (K (.bool true))):
 T W L (iN (some ⟨l,0,none⟩) (n:Int) (aI x) K):=by
 have aZ:=(adZ.1 hx).1;refine zO (P:=ox aI 33 l) (Q:=dP p) λR hc=>?_;refine nP λb c=>?_;unfold iN
 repeat' first|apply ws;intros|apply wb|with_reducible refine Pk hx hl ?_|fail
 refine bR ⟨by omega,by omega⟩ λr hr=>?_;subst hr;rw[adY];refine cL rfl (nd rS aZ (jl _) ?_);apply ws;intros;refine rG (p:=p) hv rfl rfl ?_;apply ws;intros;rename_i r1 r2 r3 r4;refine T.sub (M:=[Sep.pt r4 _,Sep.pt r2 _,Sep.pt r1 _]++Sep.pt l _::own (some ⟨r,0,none⟩) _ c 33 _::dP p _::R) ?_ (by repeat (first|exact aeb.refl _|apply aeb.cons_cons|apply aeb.cons));exact sJ (by simp) (hc [_,_,_] _ _ _ (h r4 r1 r2))
def V0[i:Lc (ox aI 33 l) L (p,items) f](hl:items.length<1000000)(h:∀b c,T W (own b items.length c 33 (items.flatMap aI)::L) (K (.l b items.length c))):T W L (iO (some ⟨l,0,none⟩) K):=by
 have hL:f (p,items)=L:=i.same;refine CO (g:=aI) (e:=33) (l:=l) λb c R hc=>?_;unfold iO;apply ws;intros;refine eY (e:=33) ?_;refine nL (b:=none) (l0:=([]:List Kept)) (l1:=items) rS rfl (by omega) jl λb' c'=>?_;have:=hc [own b' items.length c' 33 (items.flatMap aI)] b items.length c items _ rfl (by rw[hL];exact h b' c');simpa using this
end
def rC(bx:List (Nat×LV)):HP:=zq (bx.map λx=>Sep.pt x.1 x.2)
def St.Nj{W w:World}{M R:LH}{A:HP}(h:St W w (zq M::R))(hm:A∈M):∃R',St W w (A::R')/\∀w',St W w' (A::R')->St W w' (zq M::R):=by
 obtain⟨k,hk⟩:=aff hm;have p:=o0 hk;exact⟨M.eraseIdx k++R,(St.oF M R h).perm (p.append_right R),λw' h'=>St.ng M R (h'.perm (p.symm.append_right R))⟩
section
variable {W:World} {L:LH} {K:VK} {X:WK} {r o n:Nat} {cs xs:LV} {v:Value} {bx:List (Nat×LV)} {f:List (Nat×LV)->LH}
def BS(hm:(r,cs)∈bx)[i:Lc rC L bx f]{w:World}(hs:St W w L):∃R,St W w (Sep.pt r cs::R):=by
 obtain⟨k,hk,_⟩:=i.at_;obtain⟨R,h1,_⟩:=St.Nj (M:=bx.map λx=>Sep.pt x.1 x.2) (hs.focus hk) (aeI.2 ⟨(r,cs),hm,rfl⟩);exact⟨R,h1⟩
def ow[i:Lc rC L bx f](hm:(r,cs)∈bx)(hv:cs[o]?=some v)(h:T W L (K v)):T W L (ld ⟨r,o,none⟩ K):=λw hs=>by
 obtain⟨R,hr⟩:=BS hm hs;exact bn hr (k:=0) rfl hv (h w hs)
def AA[i:Lc rC L bx f](hm:(r,cs)∈bx)(hv:cs[o]?=some v)(h:T W L X):T W L (kp ⟨r,o,none⟩ [v] X):=λw hs=>by
 obtain⟨R,hr⟩:=BS hm hs;exact gB hr (k:=0) rfl hv (h w hs)
def Ax{K:LV->WK}[i:Lc rC L bx f](hm:(r,cs)∈bx)[s:Sub cs o n xs](h:T W L (K xs)):T W L (ai ⟨r,o,none⟩ n K):=λw hs=>by
 obtain⟨R,hr⟩:=BS hm hs;exact gg hr (k:=0) rfl s.is.1 s.is.2 (h w hs)
def cA[i:Lc rC L bx f](h:T W (f ((r,cs)::bx)) X):T W (Sep.pt r cs::L) X:=by
 obtain⟨R,h1,h2⟩:=i.perm;refine T.perm (λw hs=>?_) (h1.cons _);refine T.perm h (h2 _).symm w (St.ng (((r,cs)::bx).map λx=>Sep.pt x.1 x.2) R ?_);exact(St.oF (bx.map λx=>Sep.pt x.1 x.2) (Sep.pt r cs::R) (hs.perm (aem.swap _ _ _))).perm ae'
end
structure C where
 ah:List aO
 kept:List Kept
 lY:(Nat->Option Int)×Nat
 eg:(Nat->Option Int)×Nat
 stamps:List kq
 ends:List Item
 clock:Int
 ae:Int
abbrev wo(a:Nat):Value:=.func (.func N.cj) ⟨[]⟩ ⟨[.p (some (ad a 0))]⟩
abbrev Sn(a a2:Nat):Value:=.func (.func N.cm) ⟨[]⟩ ⟨[.p (some (ad a 0)),.p (some (ad a2 0))]⟩
abbrev MQ(a a2:Nat):Value:=.func (.func N.cr) ⟨[]⟩ ⟨[.p (some (ad a 0)),.p (some (ad a2 0))]⟩
abbrev Au(a a2 a3:Nat):Value:=.func (.func N.cw) ⟨[]⟩ ⟨[.p (some (ad a 0)),.p (some (ad a2 0)),.p (some (ad a3 0))]⟩
abbrev HK(a a2:Nat):Value:=.func (.func N.cu) ⟨[]⟩ ⟨[.p (some (ad a 0)),.p (some (ad a2 0))]⟩
abbrev TD(a a2:Nat):Value:=.func (.func N.cE) ⟨[]⟩ ⟨[.p (some (ad a 0)),.p (some (ad a2 0))]⟩
inductive zn(p la lk:Nat)(bx:List (Nat×LV)):Value->C->C->Prop
 |next {c:C} {a:Nat} {s:Int} (h1:(a,[.pointer (some (ad p 0))])∈bx) (hs:adU.wrap (c.ae-1)=s):zn p la lk bx (wo a) c {c with ae:=s}
 |time {c:C} {a a2:Nat} {t:Int} (h1:(a,[.int .i64 t])∈bx) (h2:(a2,[.pointer (some (ad p 0))])∈bx):zn p la lk bx (Sn a a2) c {c with clock:=t}
 |open_ {c:C} {a a2:Nat} {x:aO} {m:(Nat->Option Int)×Nat} (h1:(a,[.pointer (some (ad p 0))])∈bx) (h2:(a2,ak x)∈bx) (hu:c.lY.2<=1000) (hi:(c.lY.1 x.id).isSome=true) (hm:(sr c.lY.1 x.id none,c.lY.2-1)=m):
  zn p la lk bx (MQ a a2) c {c with lY:=m}
 |R1 {c:C} {a a2 n:Nat} (h1:(a,[.pointer (some (ad la 0))])∈bx) (h2:(a2,[.int .i64 (n:Int)])∈bx) (hn:n<=c.ah.length):zn p la lk bx (xt a a2) c {c with ah:=c.ah.take n}
 |RZ {c:C} {a a2 n:Nat} (h1:(a,[.pointer (some (ad lk 0))])∈bx) (h2:(a2,[.int .i64 (n:Int)])∈bx) (hn:n<=c.kept.length):zn p la lk bx (ra a a2) c {c with kept:=c.kept.take n}
 |Qg {c:C} {a1 a2 a3 n:Nat} {x:aO} (h1:(a1,ak x)∈bx) (h2:(a2,[.pointer (some (ad la 0))])∈bx) (h3:(a3,[.int .i64 (n:Int)])∈bx) (hn:n<c.ah.length):zn p la lk bx (Ag a1 a2 a3) c {c with ah:=c.ah.set n x}
 |Qf {c:C} {a1 a2 a3 n:Nat} {x:Kept} (h1:(a1,aI x)∈bx) (h2:(a2,[.pointer (some (ad lk 0))])∈bx) (h3:(a3,[.int .i64 (n:Int)])∈bx) (hn:n<c.kept.length):zn p la lk bx (xr a1 a2 a3) c {c with kept:=c.kept.set n x}
 |JT {c:C} {a a2 a3:Nat} {t:Move} {k:Kept} {l0:List kq} {at_:Int} {m:(Nat->Option Int)×Nat} (h1:(a,[.pointer (some (ad p 0))])∈bx) (h2:(a2,aj t)∈bx) (h3:(a3,aI k)∈bx)
  (hu:c.eg.2<=1000) (hi:(c.eg.1 t.id).isSome=true) (hr:oT c.stamps) (hl:c.stamps.length<100000) (hs:c.stamps=l0++[(k.move.ae,at_)]) (hm:(sr c.eg.1 t.id none,c.eg.2-1)=m):
  zn p la lk bx (Au a a2 a3) c {c with eg:=m,stamps:=l0}
 |JS {c:C} {a a2:Nat} {x:Item} {e':List Item} (h1:(a,[.pointer (some (ad p 0))])∈bx) (h2:(a2,dI x)∈bx) (hl:c.ends.length<10000) (he:(x::e').Perm c.ends) (hn:∀y∈e',y.ae≠x.ae):
  zn p la lk bx (HK a a2) c {c with ends:=e'}
 |end_ {c:C} {a a2:Nat} {x:Item} {e':List Item} (h1:(a,[.pointer (some (ad p 0))])∈bx) (h2:(a2,dI x)∈bx) (hl:c.ends.length<10000) (he:e'.Perm (c.ends++[x])):zn p la lk bx (TD a a2) c {c with ends:=e'}
def zn.mono{p la lk:Nat}{bx kG:List (Nat×LV)}{v:Value}{c c':C}(h:zn p la lk bx v c c')(hs:∀x∈bx,x∈kG):zn p la lk kG v c c':=by
 cases h with
 |next h1 h2=>exact .next (hs _ h1) h2
 |time h1 h2=>exact .time (hs _ h1) (hs _ h2)
 |open_ h1 h2 h3 h4 h5=>exact .open_ (hs _ h1) (hs _ h2) h3 h4 h5
 |R1 h1 h2 h3=>exact .R1 (hs _ h1) (hs _ h2) h3
 |RZ h1 h2 h3=>exact .RZ (hs _ h1) (hs _ h2) h3
 |Qg h1 h2 h3 h4=>exact .Qg (hs _ h1) (hs _ h2) (hs _ h3) h4
 |Qf h1 h2 h3 h4=>exact .Qf (hs _ h1) (hs _ h2) (hs _ h3) h4
 |JT h1 h2 h3 h4 h5 h6 h7 h8 h9=>exact .JT (hs _ h1) (hs _ h2) (hs _ h3) h4 h5 h6 h7 h8 h9
 |JS h1 h2 h3 h4 h5=>exact .JS (hs _ h1) (hs _ h2) h3 h4 h5
 |end_ h1 h2 h3 h4=>exact .end_ (hs _ h1) (hs _ h2) h3 h4
def gn(p la lk:Nat)(bx:List (Nat×LV)):LV->List C->C->Prop
 |[],[],_=>True
 |v::vs,c'::hs,c=>zn p la lk bx v c c'/\gn p la lk bx vs hs c'
 |_,_,_=>False
def gn.mono{p la lk:Nat}{bx kG:List (Nat×LV)}(hs:∀x∈bx,x∈kG):∀{vs:LV} {h:List C} {c:C},gn p la lk bx vs h c->gn p la lk kG vs h c
 |[],[],_,_=>trivial
 |v::vs,c'::h,c,hc=>⟨hc.1.mono hs,gn.mono hs hc.2⟩
def gn.len{p la lk:Nat}{bx:List (Nat×LV)}:∀{vs:LV} {h:List C} {c:C},gn p la lk bx vs h c->vs.length=h.length
 |[],[],_,_=>rfl
 |v::vs,c'::h,c,hc=>by simp[gn.len hc.2]
abbrev dD(la lk ti tn:Nat)(vs:LV)(c:C):Core:=⟨la,lk,ti,tn,vs.reverse,c.stamps,c.ends,c.clock,c.ae⟩
def FZ(p la lk ti tn:Nat)(vs:LV)(bx:List (Nat×LV))(c:C)(R:LH):LH:=
 dP p (dD la lk ti tn vs c)::ox ak 14 la (p,c.ah)::ox aI 33 lk (p,c.kept)::lz ti c.lY::lz tn c.eg::rC bx::R
section
variable {W:World} {R:LH} {K:VK} {X:WK} {p la lk ti tn:Nat} {vs:LV} {bx:List (Nat×LV)} {c c':C} {v:Value}
def Zs:B9:=[(N.cE,cE.u),(N.cw,cw.u),(N.cu,cu.u),(N.cr,cr.u),(N.cm,cm.u),(N.cj,cj.u),(N.aY,aY.u),(N.aX,aX.u),(N.bq,bq.u),(N.bp,bp.u)]
def T.DN{q:Core}{e e':List Item}(he:e.Perm e')(h:T W (dP p {q with ends:=e'}::R) X):T W (dP p {q with ends:=e}::R) X:=
 DO λb1 c1 b2 c2 b3 c3 hp h1 h2=>vR (q:={q with ends:=e'}) h1 (h2.trans he) h
def T.HZ{A B:HP}(h:T W (B::A::R) X):T W (A::B::R) X:=T.perm h (aem.swap _ _ _)
def T.SA{A B:HP}(h:T W (A::B::R) X):T W (B::A::R) X:=T.perm h (aem.swap _ _ _)
def T.T3{A B D:HP}(h:T W (D::A::B::R) X):T W (A::B::D::R) X:=T.SC (R:=R) h
def T.Sz{A B D:HP}(h:T W (A::B::D::R) X):T W (D::A::B::R) X:=T.SB (R:=R) h
def CI{x y:Item}{e' e2 e:List Item}(h1:(x::e').Perm e)(h2:(y::e2).Perm e)(hy:y.ae=x.ae)(hn:∀z∈e',z.ae≠x.ae):e2.Perm e':=by
 have:y∈x::e':=h1.mem_iff.2 (h2.mem_iff.1 (by simp));rcases afe.1 this with rfl|hm
 ·exact(List.perm_cons y).1 (h2.trans h1.symm)
 ·exact absurd hy (hn y hm)
def W4(hc:zn p la lk bx v c c')(h:T W (FZ p la lk ti tn vs bx c' R) (K (.tuple ⟨[]⟩))):T W (FZ p la lk ti tn vs bx c R) (tz Zs v [] K):=by
 unfold FZ at *;cases hc with
 |next h1 hs=>
  rename_i a s;show T W _ (cj (ad a 0) K);unfold cj
  repeat' first|apply ws;intros|apply wb|with_reducible first|refine ow h1 rfl ?_|refine HM ?_|fail
  rw[show adU.wrap ((dD la lk ti tn vs c).ae-1)=s from hs];exact h
 |time h1 h2=>
  rename_i a a2 t;show T W _ (cm (ad a 0) (ad a2 0) K);unfold cm
  repeat' first|apply ws;intros|apply wb|with_reducible first|refine ow h2 rfl ?_|refine ow h1 rfl ?_|refine HN ?_|fail
  exact h
 |open_ h1 h2 h3 h4 h5=>
  rename_i a a2 x m;show T W _ (cr (ad a 0) (ad a2 0) K);unfold cr
  repeat' first|apply ws;intros|apply wb|with_reducible first|refine ow h1 rfl ?_|refine AA h1 rfl ?_|fail
  refine Ax h2 ?_;refine Pq h3 (λ_=>?_) (λhn=>by rw[hn] at h4;cases h4)
  repeat' first|apply ws;intros|apply wb|with_reducible refine AA h1 rfl ?_|fail
  rw[h5];exact h
 |R1 h1 h2 h3=>
  rename_i a a2 n;show T W _ (aY (ad a 0) (ad a2 0) K);refine T.HZ ?_;refine nP λb cc=>?_;unfold aY
  repeat' first|apply ws;intros|apply wb|with_reducible first|refine ow h1 rfl ?_|refine ow h2 rfl ?_|fail
  refine mZ (b:=b) λqV _=>?_;refine vw (by omega) ?_;refine wv (b:=b) (i:=n) ff (by omega) ?_;apply ws;intros;exact qb (g:=ak) (e:=14) (by rw[ad2];omega) (T.SA h)
 |RZ h1 h2 h3=>
  rename_i a a2 n;show T W _ (bq (ad a 0) (ad a2 0) K);refine T.T3 ?_;refine nP λb cc=>?_;unfold bq
  repeat' first|apply ws;intros|apply wb|with_reducible first|refine ow h1 rfl ?_|refine ow h2 rfl ?_|fail
  refine mZ (b:=b) λqV _=>?_;refine vw (by omega) ?_;refine wv (b:=b) (i:=n) rS (by omega) ?_;apply ws;intros;exact qb (g:=aI) (e:=33) (by rw[ad2];omega) (T.Sz h)
 |Qg h1 h2 h3 h4=>
  rename_i a1 a2 a3 n x;show T W _ (aX (ad a1 0) (ad a2 0) (ad a3 0) K);refine T.HZ ?_;refine nP λb cc=>?_;unfold aX
  repeat' first|apply ws;intros|apply wb|with_reducible first|refine ow h2 rfl ?_|refine ow h3 rfl ?_|fail
  refine Ax h1 ?_;refine bR ⟨by omega,by omega⟩ λr hr=>?_;subst hr;rw[adY];refine cL rfl (nd ff h4 (eX _) ?_);exact qb (g:=ak) (e:=14) (by simp) (T.SA h)
 |Qf h1 h2 h3 h4=>
  rename_i a1 a2 a3 n x;show T W _ (bp (ad a1 0) (ad a2 0) (ad a3 0) K);refine T.T3 ?_;refine nP λb cc=>?_;unfold bp
  repeat' first|apply ws;intros|apply wb|with_reducible first|refine ow h2 rfl ?_|refine ow h3 rfl ?_|fail
  refine Ax h1 ?_;refine bR ⟨by omega,by omega⟩ λr hr=>?_;subst hr;rw[adY];refine cL rfl (nd rS h4 (jl _) ?_);exact qb (g:=aI) (e:=33) (by simp) (T.Sz h)
 |JT h1 h2 h3 h4 h5 h6 h7 h8 h9=>
  rename_i a a2 a3 t k l0 at_ m;show T W _ (cw (ad a 0) (ad a2 0) (ad a3 0) K);unfold cw
  repeat' first|apply ws;intros|apply wb|with_reducible first|refine ow h1 rfl ?_|refine AA h1 rfl ?_|fail
  refine Ax h2 ?_;refine Pq h4 (λ_=>?_) (λhn=>by rw[hn] at h5;cases h5)
  repeat' first|apply ws;intros|apply wb|with_reducible first|refine ow h1 rfl ?_|refine AA h1 rfl ?_|refine ow h3 rfl ?_|fail
  simp only[dZ,ad1];refine OH (p:=p) (q:=dD la lk ti tn vs c) h6 (by show c.stamps.length<_;omega) h8 ?_
  repeat' first|apply ws;intros|apply wb|with_reducible refine AA h1 rfl ?_|fail
  rw[h9];exact h
 |JS h1 h2 h3 h4 h5=>
  rename_i a a2 x e';show T W _ (cu (ad a 0) (ad a2 0) K);unfold cu
  repeat' first|apply ws;intros|apply wb|with_reducible first|refine ow h1 rfl ?_|refine ow h2 rfl ?_|fail
  simp only[dZ,ad1];refine G2 (p:=p) (q:=dD la lk ti tn vs c) h3 (λy e2 hy hp=>?_) (λEA=>absurd rfl (EA x (h4.mem_iff.1 (by simp))))
  repeat' first|apply ws;intros|apply wb|with_reducible refine AA h1 rfl ?_|fail
  exact T.DN (CI h4 hp hy h5) h
 |end_ h1 h2 h3 h4=>
  rename_i a a2 x e';show T W _ (cE (ad a 0) (ad a2 0) K);unfold cE
  repeat' first|apply ws;intros|apply wb|with_reducible refine ow h1 rfl ?_|fail
  refine Ax h2 ?_;simp only[dZ,ad1];refine ET (p:=p) (q:=dD la lk ti tn vs c) h3 h4 ?_
  repeat' first|apply ws;intros|apply wb|with_reducible refine AA h1 rfl ?_|fail
  exact h
end
structure adh where
 la:Nat
 lk:Nat
 ti:Nat
 tn:Nat
def cP(p:Nat)(x:C×List C):HP:=
 Te λz:adh×LV×List (Nat×LV)=>L7 (gn p z.1.la z.1.lk z.2.2 z.2.1 x.2 x.1) (zq (FZ p z.1.la z.1.lk z.1.ti z.1.tn z.2.1 z.2.2 x.1 []))
section
variable {W:World} {L R:LH} {K:VK} {X:WK} {p:Nat} {c:C} {hs:List C} {f:C×List C->LH}
def OL(h:∀la lk ti tn vs bx,gn p la lk bx vs hs c->T W (dP p (dD la lk ti tn vs c)::ox ak 14 la (p,c.ah)::ox aI 33 lk (p,c.kept)::lz ti c.lY::lz tn c.eg::rC bx::R) X):T W (cP p (c,hs)::R) X:=λw hw=>by
 obtain⟨⟨⟨la,lk,ti,tn⟩,vs,bx⟩,hw⟩:=hw.ex;obtain⟨hc,hw⟩:=hw.and;exact h la lk ti tn vs bx hc w (St.oF _ _ hw)
def Ai{la lk ti tn:Nat}{vs:LV}{bx:List (Nat×LV)}(hc:gn p la lk bx vs hs c)(h:T W (cP p (c,hs)::R) X):
 T W (dP p (dD la lk ti tn vs c)::ox ak 14 la (p,c.ah)::ox aI 33 lk (p,c.kept)::lz ti c.lY::lz tn c.eg::rC bx::R) X:=λw hw=>
 h w (St.nV (⟨la,lk,ti,tn⟩,vs,bx) (St.and_intro hc (St.ng _ _ hw)))
def t_c[i:Lc (cP p) L (c,hs) f](h:∀la lk ti tn vs bx R,gn p la lk bx vs hs c->
 (∀M c' cV B7 kG Y,gn p la lk kG B7 cV c'->T W (M++f (c',cV)) Y->T W (M++dP p (dD la lk ti tn B7 c')::ox ak 14 la (p,c'.ah)::ox aI 33 lk (p,c'.kept)::lz ti c'.lY::lz tn c'.eg::rC kG::R) Y)->
 T W (dP p (dD la lk ti tn vs c)::ox ak 14 la (p,c.ah)::ox aI 33 lk (p,c.kept)::lz ti c.lY::lz tn c.eg::rC bx::R) X):T W L X:=
 zN (P:=cP p) λR l9=>OL λla lk ti tn vs bx hc=>h la lk ti tn vs bx R hc λM c' cV B7 kG Y GK hy=>
  T.perm (Ai (R:=M++R) GK (T.perm (l9 M (c',cV) Y hy) ae'.symm)) (by
   have:=ad7 (l₁:=M) (l₂:=[dP p (dD la lk ti tn B7 c'),ox ak 14 la (p,c'.ah),ox aI 33 lk (p,c'.kept),lz ti c'.lY,lz tn c'.eg,rC kG])|>.append_right R
   simpa using this)
def xG{b:OA}{n c e i:Nat}{xs:LV}{f:HP->LH}[j:o8 b n c L e xs f](hi:i<=n)(h:T W (f (own b i c e (xs.take (i* e)))) X):T W L X:=λw hs=>by
 obtain⟨k,hk,e1⟩:=j.at_;refine h w ?_;rw[e1];exact St.nJ ((hs.focus hk).mono (A3 hi)) hk
def MY{r n c e o:Nat}{xs:LV}{v:Value}{f:HP->LH}[j:o8 (some ⟨r,0,none⟩) n c L e xs f](hv:xs[o]?=some v)(h:T W L (K v)):T W L (ld ⟨r,o,none⟩ K):=λw hs=>by
 obtain⟨k,hk,_⟩:=j.at_;exact vJ hs hk hv (h w hs)
def M5{b:OA}{n c e:Nat}{xs ys:LV}{f:HP->LH}[j:o8 b n c L e xs f](hl:ys.length=xs.length)(h1:∀v∈ys,v.oneCell'=true)(h:∀zs,T W (f (own b n c e zs)) X):T W L (RH ys b n X):=λw hs=>by
 obtain⟨k,hk,e1⟩:=j.at_;refine⟨λ_=>h xs w (by rw[e1,jQ hk];exact hs),λa ha _=>?_⟩;obtain⟨hlx,h0|⟨r,sp,hb,qV,zy,fo⟩⟩:=hs.lQ hk
 ·rw[h0.1] at ha;cases ha
 ·rw[hb] at ha;cases ha
  obtain⟨hc,qU⟩:=St.vA ys 0 0 fo (fZ hk) (by simp;omega) h1;refine⟨hc,h ys _ ?_⟩;rw[afb,aeT] at qU;have e2:over (xs++sp) 0 ys=ys++sp:=by
   unfold over;rw[afm,aeA,ad1,hl,List.drop_left' rfl]
  rw[e2] at qU;rw[e1,hb];exact St.xW ((adZ.1 hk).1) (by rw[hl];exact hlx) qV zy qU
def qE(n:Nat):C->List C->C×List C
 |c,[]=>(c,[])
 |c,c'::hs=>if n<=hs.length then qE n c' hs else(c,c'::hs)
def zj{n:Nat}(hn:hs.length<=n):qE n c hs=(c,hs):=by
 cases hs with
 |nil=>rfl
 |cons c' hs=>unfold qE;rw[if_neg (by simp at hn;omega)]
def LX{q:Core}{w:World}(h:St W w (dP p q::R)):∃b c,w.cell? ⟨p,0,none⟩=some (.l b q.vs.length c):=by
 obtain⟨⟨⟨b1,c1⟩,⟨b2,c2⟩,⟨b3,c3⟩,hp⟩,hs⟩:=h.ex;obtain⟨_,hs⟩:=hs.and;have:=(St.oF _ _ hs).cell (k:=0) (o:=0) rfl;exact⟨b1,c1,this.1⟩
def Wj(p:Nat)(w:World):Nat:=match w.cell? ⟨p,0,none⟩ with|some (.slice _ m _)=>m|_=>0
def NP{q:Core}{w:World}(h:St W w (dP p q::R)):Wj p w=q.vs.length:=by
 obtain⟨b,cc,e⟩:=LX h;unfold Wj;rw[e]
def V4[i:Lc (cP p) L (c,hs) f]{n:Nat}(hl:hs.length<1000000)(h:T W (f (qE n c hs)) (K (.tuple ⟨[]⟩))):T W L (oW (some ⟨p,0,none⟩) (n:Int) K):=by
 refine t_c (p:=p) λla lk ti tn vs bx R hc l9=>?_;unfold oW;refine tQ ?_;intro w hw;refine⟨λa w=>∃vs cV c',a=[]/\cV.length<1000000/\gn p la lk bx vs cV c'/\qE n c' cV=qE n c hs/\St W w (FZ p la lk ti tn vs bx c' R),
  λ_ w=>Wj p w,⟨vs,hs,c,rfl,hl,hc,rfl,hw⟩,?_⟩
 rintro w2 ⟨B7,cV,c',-,Hz,GK,hb,hw⟩;have hmu:Wj p w2=B7.length:=by
  have:=NP (q:=dD la lk ti tn B7 c') hw;rw[this];simp
 refine T.at ?_ hw;have hlen:=GK.len;have Q7:max2 (n:Int) 0=n:=by unfold max2;split<;>omega
 rw[Q7];unfold FZ;refine mK (p:=p) λb1 c1 b2 c2 b3 c3 hp R2 g1 g2 Ob=>?_;unfold fy;have hrl:(dD la lk ti tn B7 c').vs.length=B7.length:=aeU;apply ws;intros;refine dX (λg=>?_) (λg=>?_)
 ·have J6:n<B7.length:=by omega
  match B7,cV,GK,hlen,Hz,J6 with
  |v::uA,Zp::fo,GK,hlen,Hz,J6=>
  simp only[aee] at J6 Hz hlen;have hrl:(dD la lk ti tn (v::uA) c').vs.length=uA.length+1:=by show(v::uA).reverse.length=_;simp
  have e1:adU.wrap (((dD la lk ti tn (v::uA) c').vs.length:Int) -1)=(uA.length:Int):=by rw[ar (by omega)];omega
  apply ws;intros;rw[e1];refine bR ⟨by omega,by omega⟩ λr hr=>?_;subst hr;rw[adY,afn];refine MY (v:=v) (by simp) ?_;refine Ob [] (dD la lk ti tn (v::uA) c') _ _ _ _ _ _ _ _ g1 g2 ?_;refine W4 (c':=Zp) (vs:=v::uA) GK.1 ?_;unfold FZ;refine mK (p:=p) λb1 c1 b2 c2 b3 c3 hp R2 g1 g2 aaZ=>?_;unfold fy;apply ws;intros;refine mZ (b:=b1) λqV _=>?_;have qV:(dD la lk ti tn (v::uA) c').vs.length<=c1:=qV;refine vw (by omega) ?_;refine xG (b:=b1) (i:=uA.length) (show uA.length<=(dD la lk ti tn (v::uA) c').vs.length by omega) ?_;apply ws;intros;have et:List.take (uA.length* 1) (v::uA).reverse=uA.reverse:=by rw[afn,afs,<-aeU,List.take_left]
  rw[et];have:=aaZ [] (dD la lk ti tn uA Zp) b1 c1 b2 c2 b3 c3 hp (λw3=>(∃vs cV c',([]:LV)=[]/\cV.length<1000000/\gn p la lk bx vs cV c'/\qE n c' cV=qE n c hs/\St W w3 (FZ p la lk ti tn vs bx c' R))/\Wj p w3<Wj p w2) g1 g2 ?_
  ·unfold fy at this;rw[show(dD la lk ti tn uA Zp).vs.length=uA.length from aeU] at this;exact this
  ·intro w3 h3;refine⟨⟨uA,fo,Zp,rfl,by omega,GK.2,?_,h3⟩,?_⟩
   ·rw[<-hb]
    conv=>rhs;unfold qE
    rw[if_pos (by omega)]
   ·have:=NP (q:=dD la lk ti tn uA Zp) h3;rw[this,hmu];simp
 ·have hle:B7.length<=n:=by omega
  rw[zj (by omega)] at hb;rw[<-hb] at h;refine Ob [] (dD la lk ti tn B7 c') _ _ _ _ _ _ _ _ g1 g2 ?_;exact l9 [] c' cV B7 bx _ GK h
def Sf[i:Lc (cP p) L (c,hs) f](hl:hs.length<1000000)(h:T W (f (c,[])) (K (.tuple ⟨[]⟩))):T W L (jh (some ⟨p,0,none⟩) K):=by
 refine t_c (p:=p) λla lk ti tn vs bx R hc l9=>?_;have hlen:=hc.len;refine mK (p:=p) λb1 c1 b2 c2 b3 c3 hp R2 g1 g2 Ob=>?_;unfold jh fy;apply ws;intros;refine mZ (b:=b1) λqV Dt=>?_;refine M5 (b:=b1) (by rw[ky,Dt];simp) (λv hv=>?_) λzs=>?_
 ·simp only[Builtin.zeroCells,Array.toList_map,aeI] at hv;obtain⟨j,_,rfl⟩:=hv;have:(⟨[Value.nilFunc]⟩:Array Value)[j%(⟨[Value.nilFunc]⟩:Array Value).size]! =.nilFunc:=by
   have:j%(⟨[Value.nilFunc]⟩:Array Value).size=0:=Nat.mod_one j;rw[this];rfl
  rw[this];rfl
 apply ws;intros;refine vw (i:=0) (by omega) ?_;refine xG (b:=b1) (i:=0) (by omega) ?_;apply ws;intros;rw[Nat.zero_mul,afm];refine Ob [] (dD la lk ti tn [] c) b1 c1 b2 c2 b3 c3 hp _ g1 g2 ?_;exact l9 [] c [] [] bx _ trivial h
end
end Go.Up
namespace Go.Md
structure Ground(m:Model):Prop where
 zero:∀a∈m.made,a.dp=0/\a.dq=0/\a.cp=0/\a.cq=0/\0<=a.flags/\a.flags<8
 ids:(m.made.map (·.id)).Nodup
 lu:m.made.length<=32
 names:(m.kept.map (·.move.id)).Nodup
 tv:∀k∈m.kept,0<=k.fate/\k.fate<=4/\(has k.move.flags 2↔1<=k.fate)
 tS:∀k∈m.kept,k.move.aD≠k.move.aq/\k.move.aD∈m.made.map (·.id)/\k.move.aq∈m.made.map (·.id)
 some_:m.kept.length<=96
 vP:∀a∈m.made,S (wc a.id) m.kept+S (yn a.id) m.kept<aJ
 s9:∀a∈m.made,S (we a.id) m.kept+S (yo a.id) m.kept<aJ
 q9:∀a∈m.made,S (qy a.id) m.kept<=1
structure mg(b:ax)(m:Model):Prop where
 ah:b.ah=m.made.map (full m.kept)
 kept:b.kept=m.kept
 clock:b.clock=m.clock
 ae:b.ae=m.ae
def Ground.full{m:Model}(h:Ground m){a:aO}(ha:a∈m.made):m.full a=Md.full m.kept a:=by
 obtain⟨h1,h2,h3,h4,_⟩:=h.zero a ha;have d:=h.vP a ha;have c:=h.s9 a ha;exact Iz a m.kept (by omega) (by omega) (by omega) (by omega)
def xk{l:List aO}{id:Nat}{a:aO}(h:l.find? (λa=>a.id=id)=some a):a∈l/\a.id=id:=
 ⟨aeW h,by simpa using List.find?_some h⟩
def mg.find{b:ax}{m:Model}(h:mg b m)(id:Nat):b.find id=(m.find id).map (Md.full m.kept):=by
 unfold ax.find Model.find;rw[h.ah,List.find?_map]
 rfl
def DD(l:List Kept)(k:Kept)(a:aO):full (l++[k]) a=full [k] (full l a):=(y9 a l [k]).symm
def xh(k:Kept)(a:aO):full [k] a={a with dp:=a.dp+wc a.id k,dq:=a.dq+yn a.id k,cp:=a.cp+we a.id k,cq:=a.cq+yo a.id k,flags:=if gI a.id k then a.flags%8+8 else a.flags}:=by
 unfold full;simp only[od,uz,aeT]
 congr 1
 unfold qy;by_cases h:gI a.id k
 ·rw[if_pos h,if_pos h,if_neg (by omega)]
 ·rw[if_neg h,if_neg h,if_pos rfl]
def oR(t b:Move):qG t b≠0:=by unfold qG;split<;>decide
def ue{t:Move}{named:Option Kept}{d c:Option aO}{many:Nat}(h:(gN t named d c many).1=0):
 ∃d' c',d=some d'/\c=some c'/\named=none/\kF t=0/\ ¬gw t.flags/\d'.aG=c'.aG/\d'.flags<8/\c'.flags<8/\many<96/\
  d'.dp+d'.dq+(gN t named d c many).2<aJ/\c'.cp+c'.cq+(gN t named d c many).2<aJ/\
  ¬(has d'.flags 2/\gj d' true<(gN t named d c many).2)/\ ¬(has c'.flags 4/\gj c' false<(gN t named d c many).2):=by
 unfold gN at h⊢;by_cases h1:kF t≠0
 ·rw[if_pos h1] at h;exact absurd h h1
 rw[if_neg h1] at h⊢;by_cases h2:gw t.flags
 ·rw[if_pos h2] at h;exact absurd h (by decide)
 rw[if_neg h2] at h⊢;cases named with
 |some k=>exact absurd h (oR t k.asked)
 |none=>
  cases d with
  |none=>exact absurd h (show ¬(19:Int)=0 by decide)
  |some d=>
   cases c with
   |none=>exact absurd h (show ¬(20:Int)=0 by decide)
   |some c=>
    dsimp only at h⊢;by_cases h3:d.aG≠c.aG
    ·rw[if_pos h3] at h;exact absurd h (by decide)
    rw[if_neg h3] at h⊢;by_cases h4:d.aG≠t.aG
    ·rw[if_pos h4] at h;exact absurd h (by decide)
    rw[if_neg h4] at h⊢;by_cases h5:8<=d.flags
    ·rw[if_pos h5] at h;exact absurd h (by decide)
    rw[if_neg h5] at h⊢;by_cases h6:8<=c.flags
    ·rw[if_pos h6] at h;exact absurd h (by decide)
    rw[if_neg h6] at h⊢;by_cases h7:96<=many
    ·rw[if_pos h7] at h;exact absurd h (by decide)
    rw[if_neg h7] at h⊢;by_cases h8:(bF t d c).2≠0
    ·rw[if_pos h8] at h;exact absurd h h8
    rw[if_neg h8] at h⊢;by_cases h9:(more d true (bF t d c).1 (decide (has t.flags 2))).2≠0
    ·rw[if_pos h9] at h;exact absurd h h9
    rw[if_neg h9] at h⊢;by_cases U9:(more c false (bF t d c).1 (decide (has t.flags 2))).2≠0
    ·rw[if_pos U9] at h;exact absurd h U9
    rw[if_neg U9];dsimp only;refine⟨d,c,rfl,rfl,rfl,aea.1 h1,h2,aea.1 h3,by omega,by omega,by omega,?_,?_,?_,?_⟩
    ·by_cases hh:aJ<=d.dp+d.dq+(bF t d c).1
     ·exfalso;apply h9;unfold more;rw[if_pos rfl,if_pos hh];exact(show(32:Int)≠0 by decide)
     ·omega
    ·by_cases hh:aJ<=c.cp+c.cq+(bF t d c).1
     ·exfalso;apply U9;unfold more;rw[if_neg aeq,if_pos hh];exact(show(32:Int)≠0 by decide)
     ·omega
    ·intro hh;apply h9;unfold more;rw[if_pos rfl];by_cases h0:aJ<=d.dp+d.dq+(bF t d c).1
     ·rw[if_pos h0];exact(show(32:Int)≠0 by decide)
     ·rw[if_neg h0,if_pos hh];exact(show(33:Int)≠0 by decide)
    ·intro hh;apply U9;unfold more;rw[if_neg aeq];by_cases h0:aJ<=c.cp+c.cq+(bF t d c).1
     ·rw[if_pos h0];exact(show(32:Int)≠0 by decide)
     ·rw[if_neg h0,if_pos hh];exact(show(34:Int)≠0 by decide)
def ni{l:List aO}(hn:(l.map (·.id)).Nodup){a:aO}(ha:a∈l):l.find? (λx=>x.id=a.id)=some a:=by
 induction l with
 |nil=>simp at ha
 |cons x l ih=>
  simp only[aez,List.nodup_cons] at hn;rcases afe.1 ha with rfl|ha
  ·simp
  ·rw[List.find?_cons];by_cases hx:x.id=a.id
   ·exact absurd (aeI.2 ⟨a,ha,hx.symm⟩) hn.1
   ·simp only[hx,decide_false];exact ih hn.2 ha
def Ix{a:aO}{k:Kept}(h1:k.move.aD≠a.id)(h2:k.move.aq≠a.id):full [k] a=a:=by
 rw[xh];unfold wc yn we yo gI;simp[h1,h2]
def zY(a:aO)(b:Bool)(n:Nat)(p:Bool):(more a b n p).1.id=a.id/\(more a b n p).1.ae=a.ae:=by
 unfold more;split<;>split<;>(try exact⟨rfl,rfl⟩)<;>split<;>(try exact⟨rfl,rfl⟩)<;>split<;>exact⟨rfl,rfl⟩
def xq(a:aO)(yes:Prop)[Decidable yes]:(close a yes).id=a.id/\(close a yes).ae=a.ae:=by unfold close;split<;>exact⟨rfl,rfl⟩
def Ih{d c x:aO}{t:Move}{n:Nat}{st ck:Int}(UX:t.aD≠t.aq)(hd:d.id=t.aD)(hc:c.id=t.aq)(nD: ¬gw t.flags)(PA:d.dp+d.dq+n<aJ)(hsc:c.cp+c.cq+n<aJ)(hxd:x.id=t.aD->x=d)(hxc:x.id=t.aq->x=c)
 (Gy: ¬(has d.flags 2/\gj d true<n))(qV: ¬(has c.flags 4/\gj c false<n))(q1:has t.flags 64->has t.flags 2)(q2:has t.flags 128->has t.flags 2):
 (λy:aO=>if y.id=(close (more c false n (decide (has t.flags 2))).1 (has t.flags 128)).id then{close (more c false n (decide (has t.flags 2))).1 (has t.flags 128) with ae:=y.ae} else y)
  ((λy:aO=>if y.id=(close (more d true n (decide (has t.flags 2))).1 (has t.flags 64)).id then{close (more d true n (decide (has t.flags 2))).1 (has t.flags 64) with ae:=y.ae} else y) x)
 =full [⟨t,{t with aA:=n,ae:=st,born:=ck},waits t⟩] x:=by
 have i1:(close (more d true n (decide (has t.flags 2))).1 (has t.flags 64)).id=t.aD:=by rw[(xq _ _).1,(zY _ _ _ _).1,hd]
 have i2:(close (more c false n (decide (has t.flags 2))).1 (has t.flags 128)).id=t.aq:=by rw[(xq _ _).1,(zY _ _ _ _).1,hc]
 have s1:(close (more d true n (decide (has t.flags 2))).1 (has t.flags 64)).ae=d.ae:=by rw[(xq _ _).2,(zY _ _ _ _).2]
 have s2:(close (more c false n (decide (has t.flags 2))).1 (has t.flags 128)).ae=c.ae:=by rw[(xq _ _).2,(zY _ _ _ _).2]
 have e4: ¬has t.flags 4:=λh=>nD (.inl h);have e8: ¬has t.flags 8:=λh=>nD (.inr h);dsimp only;rw[i1,i2];by_cases h1:x.id=t.aD
 ·have hx:=hxd h1;subst hx;rw[if_pos h1];rw[if_neg (show ¬t.aD=t.aq from UX),xh];unfold wc yn we yo gI ik waits close more;have gU: ¬t.aq=x.id:=λh=>UX (by rw[h,h1]);simp only[if_true,if_neg (show ¬aJ<=x.dp+x.dq+n by omega),if_neg Gy];by_cases hw:has t.flags 2<;>by_cases l9:has t.flags 64<;>(try exact absurd (q1 l9) hw)<;>simp[hw,l9,e8,h1.symm,gU]
 ·rw[if_neg h1];by_cases h2:x.id=t.aq
  ·have hx:=hxc h2;subst hx;rw[if_pos h2,xh];unfold wc yn we yo gI ik waits close more;have gU: ¬t.aD=x.id:=λh=>h1 h.symm;simp only[aeo,if_false,if_neg (show ¬aJ<=x.cp+x.cq+n by omega),if_neg qV];by_cases hw:has t.flags 2<;>by_cases l9:has t.flags 128<;>(try exact absurd (q2 l9) hw)<;>simp[hw,l9,e8,h2.symm,gU]
  ·rw[if_neg h2,Ix (λh=>h1 h.symm) (λh=>h2 h.symm)]
def L0{t:Move}(h:kF t=0)(he: ¬gw t.flags):t.aD≠t.aq/\0<=t.flags/\t.flags<=255/\(has t.flags 64->has t.flags 2)/\(has t.flags 128->has t.flags 2):=by
 unfold kF at h;by_cases h1:t.flags<0\/255<t.flags
 ·rw[if_pos h1] at h;exact absurd h (by decide)
 rw[if_neg h1] at h;have ht:fx t.flags:=by
  by_cases h2:t.id=0
  ·rw[if_pos h2] at h;exact absurd h (by decide)
  rw[if_neg h2] at h;by_cases h3:t.id=aJ-1
  ·rw[if_pos h3] at h;exact absurd h (by decide)
  rw[if_neg h3] at h;by_cases h4: ¬fx t.flags
  ·rw[if_pos h4] at h;exact absurd h (by decide)
  exact aea.1 h4
 have Rj:∀b:Int,(b=64\/b=128)->has t.flags b->has t.flags 2:=λb hb hh=>by
  rcases ht.2.2 with h0|h0
  ·unfold has at hh;rcases hb with rfl|rfl<;>omega
  ·exact h0
 refine⟨λUX=>?_,by omega,by omega,Rj 64 (.inl rfl),Rj 128 (.inr rfl)⟩;by_cases h2:t.id=0
 ·rw[if_pos h2] at h;exact absurd h (by decide)
 rw[if_neg h2] at h;by_cases h3:t.id=aJ-1
 ·rw[if_pos h3] at h;exact absurd h (by decide)
 rw[if_neg h3] at h;by_cases h4: ¬fx t.flags
 ·rw[if_pos h4] at h;exact absurd h (by decide)
 rw[if_neg h4] at h;by_cases h5:t.ae≠0\/t.born≠0
 ·rw[if_pos h5] at h;exact absurd h (by decide)
 rw[if_neg h5] at h;by_cases h6:t.timeout<0\/1073741824<t.timeout\/0<t.timeout/\ ¬has t.flags 2
 ·rw[if_pos h6] at h;exact absurd h (by decide)
 rw[if_neg h6,if_neg he] at h;by_cases h7:t.aD=0
 ·rw[if_pos h7] at h;exact absurd h (by decide)
 rw[if_neg h7] at h;by_cases h8:t.aq=0
 ·rw[if_pos h8] at h;exact absurd h (by decide)
 rw[if_neg h8,if_pos UX] at h;exact absurd h (by decide)
def Bx{l:List Kept}{a:aO}(h0:0<=a.flags)(h:(full l a).flags<8):S (qy a.id) l=0:=by
 by_cases hs:S (qy a.id) l=0
 ·exact hs
 ·exfalso;have e:(full l a).flags=a.flags%8+8:=if_neg hs;rw[e] at h;omega
def mg.Ep{b:ax}{m:Model}(h:mg b m)(id:Nat):b.named id=m.named id:=by unfold ax.named Model.named;rw[h.kept]
def Ground.Oi{m:Model}(h:Ground m)(id:Nat):(m.find id).map m.full=(m.find id).map (Md.full m.kept):=by
 cases hf:m.find id with
 |none=>rfl
 |some a=>rw[aeK,aeK,h.full (xk hf).1]
def Ground.one{m:Model}(h:Ground m){id:Nat}{d:aO}(hf:(m.find id).map (Md.full m.kept)=some d){a:aO}(ha:a∈m.made)(HC:a.id=id):Md.full m.kept a=d:=by
 have:=ni h.ids ha;rw[HC] at this;unfold Model.find at hf;rw[this] at hf;simpa using hf
def mg.move{b:ax}{m:Model}{t:Move}(hs:mg b m)(hg:Ground m):(b.move t).1=(m.move t).1/\mg (b.move t).2 (m.move t).2/\Ground (m.move t).2:=by
 have e:gN t (b.named t.id) (b.find t.aD) (b.find t.aq) b.kept.length=gN t (m.named t.id) ((m.find t.aD).map m.full) ((m.find t.aq).map m.full) m.kept.length:=by
  rw[hs.Ep,hs.find,hs.find,hg.Oi,hg.Oi,hs.kept]
 unfold ax.move Model.move;dsimp only;rw[e];by_cases hr:(gN t (m.named t.id) ((m.find t.aD).map m.full) ((m.find t.aq).map m.full) m.kept.length).1≠0
 ·rw[if_pos hr,if_pos hr];exact⟨rfl,hs,hg⟩
 rw[if_neg hr,if_neg hr];have Uy:=aea.1 hr;obtain⟨d,c,hd,hc,hn,pJ,nD,hlg,Lx,S5,rV,PA,hsc,Gy,qV⟩:=ue Uy;generalize (gN t (m.named t.id) ((m.find t.aD).map m.full) ((m.find t.aq).map m.full) m.kept.length).2=n at *;obtain⟨UX,adM,adL,hq1,Q3⟩:=L0 pJ nD;rw[hg.Oi] at hd hc;have Z6:b.find t.aD=some d:=by rw[hs.find];exact hd
 have Z7:b.find t.aq=some c:=by rw[hs.find];exact hc
 obtain⟨d0,Wx,rfl⟩:=Option.map_eq_some_iff.1 hd;obtain⟨c0,hc0,rfl⟩:=Option.map_eq_some_iff.1 hc;obtain⟨ED,Fg⟩:=xk Wx;obtain⟨Mw,EE⟩:=xk hc0;refine⟨rfl,⟨?_,?_,?_,?_⟩,?_⟩
 ·unfold ax.yR;rw[Z6,Z7];show((b.ah.map _).map _)=m.made.map (Md.full (m.kept++[_]));rw[hs.ah,afx,afx];apply ae6;intro a ha;rw[DD];exact Ih (d:=Md.full m.kept d0) (c:=Md.full m.kept c0) (x:=Md.full m.kept a) UX Fg EE nD PA hsc (λhx=>hg.one hd ha hx) (λhx=>hg.one hc ha hx) Gy qV hq1 Q3
 ·unfold ax.yR;rw[Z6,Z7];show b.kept++[(⟨t,{{t with aA:=n} with ae:=b.ae+1,born:=b.clock},waits t⟩:Kept)]=m.kept++[_];rw[hs.kept,hs.ae,hs.clock]
 ·unfold ax.yR;rw[Z6,Z7];exact hs.clock
 ·unfold ax.yR;rw[Z6,Z7];show b.ae+1=m.ae+1;rw[hs.ae]
 ·have hdz:=hg.zero d0 ED;have hcz:=hg.zero c0 Mw;have hle:∀id(k:Kept),k.move.aD=t.aD->k.move.aA=n->k.move.flags=t.flags->k.fate=waits t->wc id k+yn id k<=if t.aD=id then n else 0:=λid k e1 e2 e3 e4=>by
   have hx:k.fate=1-> ¬ik k:=λh1 h2=>by
    rw[e4] at h1;unfold waits at h1;by_cases h3:has t.flags 2
    ·exact h2.1 (by rw[e3];exact h3)
    ·rw[if_neg h3] at h1;exact absurd h1 (by decide)
   unfold wc yn;rw[e1,e2];by_cases h1:t.aD=id
   ·by_cases h2:k.fate=1
    ·simp[h1,h2,hx h2]
    ·simp[h1,h2];split<;>omega
   ·simp[h1]
  have aaH:∀id(k:Kept),k.move.aq=t.aq->k.move.aA=n->k.move.flags=t.flags->k.fate=waits t->we id k+yo id k<=if t.aq=id then n else 0:=λid k e1 e2 e3 e4=>by
   have hx:k.fate=1-> ¬ik k:=λh1 h2=>by
    rw[e4] at h1;unfold waits at h1;by_cases h3:has t.flags 2
    ·exact h2.1 (by rw[e3];exact h3)
    ·rw[if_neg h3] at h1;exact absurd h1 (by decide)
   unfold we yo;rw[e1,e2];by_cases h1:t.aq=id
   ·by_cases h2:k.fate=1
    ·simp[h1,h2,hx h2]
    ·simp[h1,h2];split<;>omega
   ·simp[h1]
  refine⟨hg.zero,hg.ids,hg.lu,?_,λk hk=>?_,λk hk=>?_,?_,λa ha=>?_,λa ha=>?_,λa ha=>?_⟩
  ·show((m.kept++[_]).map _).Nodup;rw[aeu,List.nodup_append];refine⟨hg.names,by simp,λx hx y hy=>?_⟩;simp only[aez,afw,List.mem_singleton] at hy;obtain⟨k,hk,rfl⟩:=aeI.1 hx;intro Wo;unfold Model.named at hn;have:=afh.1 hn k hk;simp[Wo,hy] at this
  ·rcases aeB.1 hk with hk|hk
   ·exact hg.tv k hk
   ·simp only[List.mem_singleton] at hk;subst hk;unfold waits;by_cases h2:has t.flags 2
    ·simp only[if_pos h2];exact⟨by decide,by decide,by simp[h2]⟩
    ·simp only[if_neg h2];exact⟨by decide,by decide,by simp[h2]⟩
  ·rcases aeB.1 hk with hk|hk
   ·exact hg.tS k hk
   ·simp only[List.mem_singleton] at hk;subst hk;exact⟨UX,aeI.2 ⟨d0,ED,Fg⟩,aeI.2 ⟨c0,Mw,EE⟩⟩
  ·show(m.kept++[_]).length<=96;rw[ad0,afk];omega
  ·show S (wc a.id) (m.kept++[_])+S (yn a.id) (m.kept++[_])<aJ;rw[rF,rF];generalize hK:Kept.mk t _ (waits t)=K;have h1:=hle a.id K (by rw[<-hK]) (by rw[<-hK]) (by rw[<-hK]) (by rw[<-hK]);have h2:=hg.vP a ha;by_cases U4:t.aD=a.id
   ·rw[if_pos U4] at h1;have h3:=hg.one hd ha U4.symm;rw[<-h3] at PA;have h4:=hg.zero a ha;have e1:(Md.full m.kept a).dp=a.dp+S (wc a.id) m.kept:=rfl;have e2:(Md.full m.kept a).dq=a.dq+S (yn a.id) m.kept:=rfl;omega
   ·rw[if_neg U4] at h1;omega
  ·show S (we a.id) (m.kept++[_])+S (yo a.id) (m.kept++[_])<aJ;rw[rF,rF];generalize hK:Kept.mk t _ (waits t)=K;have h1:=aaH a.id K (by rw[<-hK]) (by rw[<-hK]) (by rw[<-hK]) (by rw[<-hK]);have h2:=hg.s9 a ha;by_cases U4:t.aq=a.id
   ·rw[if_pos U4] at h1;have h3:=hg.one hc ha U4.symm;rw[<-h3] at hsc;have e1:(Md.full m.kept a).cp=a.cp+S (we a.id) m.kept:=rfl;have e2:(Md.full m.kept a).cq=a.cq+S (yo a.id) m.kept:=rfl;omega
   ·rw[if_neg U4] at h1;omega
  ·show S (qy a.id) (m.kept++[_])<=1;rw[rF];have h2:=hg.q9 a ha;generalize hK:Kept.mk t _ (waits t)=K;by_cases l9:gI a.id K
   ·have h3:qy a.id K=1:=if_pos l9;have h0:S (qy a.id) m.kept=0:=by
     rcases l9.1 with⟨_,hh⟩|⟨_,hh⟩
     ·rw[<-hK] at hh;have:=hg.one hd ha (show a.id=t.aD from hh.symm);rw[<-this] at Lx;exact Bx (hg.zero a ha).2.2.2.2.1 Lx
     ·rw[<-hK] at hh;have:=hg.one hc ha (show a.id=t.aq from hh.symm);rw[<-this] at S5;exact Bx (hg.zero a ha).2.2.2.2.1 S5
    omega
   ·have h3:qy a.id K=0:=if_neg l9;omega
def modify_eq{α:Type}(f:α->α):∀(l:List α)(i:Nat)(h:i<l.length),l.modify i f=l.set i (f l[i])
 |[],i,h=>by simp at h
 |x::l,0,h=>by simp[List.modify]
 |x::l,i+1,h=>by
  have:=modify_eq f l i (by simpa using h);simp[List.modify_succ_cons,this]
def ended{l:List Kept}{i:Nat}(hi:i<l.length){f:Int}(h1:l[i].fate=1)(hw:has l[i].move.flags 2)(hf:f=2\/f=3\/f=4)(id:Nat):
 S (wc id) (l.set i {l[i] with fate:=f})+(if l[i].move.aD=id then l[i].move.aA else 0)=S (wc id) l/\
 S (we id) (l.set i {l[i] with fate:=f})+(if l[i].move.aq=id then l[i].move.aA else 0)=S (we id) l/\
 S (yn id) (l.set i {l[i] with fate:=f})=S (yn id) l/\S (yo id) (l.set i {l[i] with fate:=f})=S (yo id) l/\
 S (qy id) (l.set i {l[i] with fate:=f})+(if f≠2/\(has l[i].move.flags 64/\l[i].move.aD=id\/has l[i].move.flags 128/\l[i].move.aq=id) then 1 else 0)=S (qy id) l:=by
 have a1:=DU (wc id) l i {l[i] with fate:=f} hi;have a2:=DU (we id) l i {l[i] with fate:=f} hi;have a3:=DU (yn id) l i {l[i] with fate:=f} hi;have a4:=DU (yo id) l i {l[i] with fate:=f} hi;have a5:=DU (qy id) l i {l[i] with fate:=f} hi;have b1:wc id {l[i] with fate:=f}=0:=by unfold wc;rw[if_neg (by rintro⟨hh,_⟩;dsimp only at hh;omega)]
 have b2:we id {l[i] with fate:=f}=0:=by unfold we;rw[if_neg (by rintro⟨hh,_⟩;dsimp only at hh;omega)]
 have b3:yn id {l[i] with fate:=f}=yn id l[i]:=rfl;have b4:yo id {l[i] with fate:=f}=yo id l[i]:=rfl;have c1:wc id l[i]=if l[i].move.aD=id then l[i].move.aA else 0:=by
  unfold wc;by_cases h:l[i].move.aD=id
  ·rw[if_pos ⟨h1,h⟩,if_pos h]
  ·rw[if_neg (λhh=>h hh.2),if_neg h]
 have c2:we id l[i]=if l[i].move.aq=id then l[i].move.aA else 0:=by
  unfold we;by_cases h:l[i].move.aq=id
  ·rw[if_pos ⟨h1,h⟩,if_pos h]
  ·rw[if_neg (λhh=>h hh.2),if_neg h]
 rw[b1,c1] at a1;rw[b2,c2] at a2;rw[b3] at a3;rw[b4] at a4;refine⟨by omega,by omega,by omega,by omega,?_⟩;by_cases l9:has l[i].move.flags 64/\l[i].move.aD=id\/has l[i].move.flags 128/\l[i].move.aq=id
 ·have d1:qy id l[i]=1:=if_pos ⟨l9,.inl h1⟩;by_cases Aa:f=2
  ·have d2:qy id {l[i] with fate:=f}=1:=if_pos ⟨l9,.inr Aa⟩;rw[if_neg (λhh=>hh.1 Aa)];omega
  ·have d2:qy id {l[i] with fate:=f}=0:=if_neg (by rintro⟨_,hh⟩;dsimp only at hh;omega);rw[if_pos ⟨Aa,l9⟩];omega
 ·have d1:qy id l[i]=0:=if_neg (λhh=>l9 hh.1);have d2:qy id {l[i] with fate:=f}=0:=if_neg (λhh=>l9 hh.1);rw[if_neg (λhh=>l9 hh.2)];omega
def Ec(d:aO)(p:Move)(n:Nat)(f:Int):(vF d p n f).id=d.id/\(vF d p n f).ae=d.ae:=by unfold vF open_;split<;>(try exact⟨rfl,rfl⟩);split<;>exact⟨rfl,rfl⟩
def Ed(d:aO)(p:Move)(n:Nat)(f:Int):(wF d p n f).id=d.id/\(wF d p n f).ae=d.ae:=by unfold wF open_;split<;>(try exact⟨rfl,rfl⟩);split<;>exact⟨rfl,rfl⟩
def FV{l:List Kept}{i:Nat}(hi:i<l.length){f:Int}{n:Nat}{a:aO}(h1:l[i].fate=1)(hw:has l[i].move.flags 2)(hf:f=2\/f=3\/f=4)(gU:l[i].move.aD≠l[i].move.aq)(ha0:0<=a.flags)(ha8:a.flags<8)(l9:S (qy a.id) l<=1)
 {d c:aO}(hd:d.id=l[i].move.aD)(hc:c.id=l[i].move.aq)(hxd:a.id=l[i].move.aD->full l a=d)(hxc:a.id=l[i].move.aq->full l a=c):
 (λy:aO=>if y.id=(wF c l[i].move n f).id then{wF c l[i].move n f with ae:=y.ae} else y) ((λy:aO=>if y.id=(vF d l[i].move n f).id then{vF d l[i].move n f with ae:=y.ae} else y) (full l a))
 ={full (l.set i {l[i] with fate:=f}) a with dq:=(full l a).dq+(if f=2/\l[i].move.aD=a.id then n else 0),cq:=(full l a).cq+(if f=2/\l[i].move.aq=a.id then n else 0)}:=by
 have HC:(full l a).id=a.id:=rfl;obtain⟨e1,e2,e3,e4,e5⟩:=ended hi h1 hw hf a.id;dsimp only;rw[(Ed c _ n f).1,(Ec d _ n f).1,hd,hc];generalize hk:l[i]=k at *;generalize hl:l.set i {k with fate:=f}=l' at *;by_cases Lz:a.id=k.move.aD
 ·have hx:=hxd Lz;rw[if_pos (show(full l a).id=k.move.aD by rw[HC];exact Lz),if_neg (show ¬k.move.aD=k.move.aq from gU),<-hx];have UI: ¬k.move.aq=a.id:=λhh=>gU (by rw[hh,Lz]);rw[if_pos Lz.symm] at e1;rw[if_neg UI] at e2;unfold vF open_ full;dsimp only;by_cases h2:f=2
  ·subst h2;simp only[if_true,true_and,Lz.symm,UI,if_false,aeT];rw[if_neg (by rintro⟨hh,_⟩;exact hh rfl)] at e5;have:S (qy a.id) l'=S (qy a.id) l:=by omega
   simp only[this,e3,e4]
   congr 1<;>omega
  ·have hb:∀p:Prop,¬(f=2/\p):=λp hh=>h2 hh.1;rw[if_neg h2,if_neg (hb _),if_neg (hb _)];by_cases Rj:has k.move.flags 64
   ·rw[if_pos ⟨h2,.inl ⟨Rj,Lz.symm⟩⟩] at e5;have z1:S (qy a.id) l'=0:=by omega
    have z2: ¬S (qy a.id) l=0:=by omega
    simp only[z1,z2,Rj,if_true,if_false,e3,e4]
    congr 1<;>omega
   ·rw[if_neg (by rintro⟨_,hh|hh⟩;exact Rj hh.1;exact UI hh.2)] at e5;have:S (qy a.id) l'=S (qy a.id) l:=by omega
    simp only[this,Rj,if_false,e3,e4]
    congr 1<;>omega
 ·rw[if_neg (show ¬(full l a).id=k.move.aD by rw[HC];exact Lz)];have Lq: ¬k.move.aD=a.id:=λhh=>Lz hh.symm;by_cases J7:a.id=k.move.aq
  ·have hx:=hxc J7;rw[if_pos (show(full l a).id=k.move.aq by rw[HC];exact J7),<-hx];rw[if_neg Lq] at e1;rw[if_pos J7.symm] at e2;unfold wF open_ full;dsimp only;by_cases h2:f=2
   ·subst h2;simp only[if_true,true_and,J7.symm,Lq,if_false,aeT];rw[if_neg (by rintro⟨hh,_⟩;exact hh rfl)] at e5;have:S (qy a.id) l'=S (qy a.id) l:=by omega
    simp only[this,e3,e4]
    congr 1<;>omega
   ·have hb:∀p:Prop,¬(f=2/\p):=λp hh=>h2 hh.1;rw[if_neg h2,if_neg (hb _),if_neg (hb _)];by_cases yk:has k.move.flags 128
    ·rw[if_pos ⟨h2,.inr ⟨yk,J7.symm⟩⟩] at e5;have z1:S (qy a.id) l'=0:=by omega
     have z2: ¬S (qy a.id) l=0:=by omega
     simp only[z1,z2,yk,if_true,if_false,e3,e4]
     congr 1<;>omega
    ·rw[if_neg (by rintro⟨_,hh|hh⟩;exact Lq hh.2;exact yk hh.1)] at e5;have:S (qy a.id) l'=S (qy a.id) l:=by omega
     simp only[this,yk,if_false,e3,e4]
     congr 1<;>omega
  ·rw[if_neg (show ¬(full l a).id=k.move.aq by rw[HC];exact J7)];have UJ: ¬k.move.aq=a.id:=λhh=>J7 hh.symm;rw[if_neg Lq] at e1;rw[if_neg UJ] at e2;rw[if_neg (by rintro⟨_,hh|hh⟩;exact Lq hh.2;exact UJ hh.2)] at e5;have:S (qy a.id) l'=S (qy a.id) l:=by omega
   unfold full;simp only[this,Lq,UJ,and_false,if_false,aeT,e3,e4]
   congr 1<;>omega
def zb{l:List Kept}{p:Kept->Bool}:l.find? p=(l.findIdx? p).bind λi=>l[i]?:=by
 induction l with
 |nil=>rfl
 |cons x l ih=>
  rw[List.find?_cons,List.findIdx?_cons];cases hp:p x with
  |true=>rfl
  |false=>
   simp only[ih];cases l.findIdx? p with
   |none=>rfl
   |some i=>simp
def mg.make{b:ax}{m:Model}{a:aO}(hs:mg b m)(hg:Ground m):(b.make a).1=(m.make a).1/\mg (b.make a).2 (m.make a).2/\Ground (m.make a).2:=by
 unfold ax.make Model.make;by_cases h1:qM a≠0
 ·rw[if_pos h1,if_pos h1];exact⟨rfl,hs,hg⟩
 rw[if_neg h1,if_neg h1,hs.find];cases hf:m.find a.id with
 |some x=>
  refine⟨?_,hs,hg⟩;show rD a (Md.full m.kept x)=rD a x;have hz:=hg.zero x (xk hf).1;unfold rD Md.full;dsimp only;have:(if S (qy x.id) m.kept=0 then x.flags else x.flags%8+8)/2%4=x.flags/2%4:=by split<;>omega
  rw[this]
 |none=>
  have hlen:b.ah.length=m.made.length:=by rw[hs.ah,aen]
  dsimp only[Option.map_none];rw[hlen];by_cases h2:32<=m.made.length
  ·rw[if_pos h2,if_pos h2];exact⟨rfl,hs,hg⟩
  rw[if_neg h2,if_neg h2];have pJ:=aea.1 h1;have kR:∀x∈m.made,x.id≠a.id:=λx hx=>by
   have:=afh.1 hf x hx;simpa using this
  have hc:0<=a.flags/\a.flags<=7/\a.dp=0/\a.dq=0/\a.cp=0/\a.cq=0:=by
   unfold qM at pJ;by_cases c1:a.flags<0\/7<a.flags
   ·rw[if_pos c1] at pJ;exact absurd pJ (by decide)
   rw[if_neg c1] at pJ;by_cases c2:a.id=0
   ·rw[if_pos c2] at pJ;exact absurd pJ (by decide)
   rw[if_neg c2] at pJ;by_cases c3:a.id=aJ-1
   ·rw[if_pos c3] at pJ;exact absurd pJ (by decide)
   rw[if_neg c3] at pJ;by_cases c4:has a.flags 2/\has a.flags 4
   ·rw[if_pos c4] at pJ;exact absurd pJ (by decide)
   rw[if_neg c4] at pJ;by_cases c5:a.dp≠0\/a.dq≠0\/a.cp≠0\/a.cq≠0\/a.ae≠0
   ·rw[if_pos c5] at pJ;exact absurd pJ (by decide)
   omega
  have z:∀k∈m.kept,k.move.aD≠a.id/\k.move.aq≠a.id:=λk hk=>by
   obtain⟨_,s1,s2⟩:=hg.tS k hk;obtain⟨x,hx,hxe⟩:=aeI.1 s1;obtain⟨y,hy,hye⟩:=aeI.1 s2;exact⟨λh=>kR x hx (by rw[hxe,h]),λh=>kR y hy (by rw[hye,h])⟩
  have S0:∀f:Kept->Nat,(∀k∈m.kept,f k=0)->S f m.kept=0:=λf hf=>by
   have:∀l:List Kept,(∀k∈l,f k=0)->S f l=0:=λl=>by
    induction l with
    |nil=>intro _;rfl
    |cons x l ih=>intro h;rw[od,h x (by simp),ih λk hk=>h k (by simp[hk])]
   exact this _ hf
  have z1:S (wc a.id) m.kept=0:=S0 _ λk hk=>if_neg (λhh=>(z k hk).1 hh.2);have z2:S (we a.id) m.kept=0:=S0 _ λk hk=>if_neg (λhh=>(z k hk).2 hh.2);have z3:S (yn a.id) m.kept=0:=S0 _ λk hk=>if_neg (λhh=>(z k hk).1 hh.2);have z4:S (yo a.id) m.kept=0:=S0 _ λk hk=>if_neg (λhh=>(z k hk).2 hh.2);have z5:S (qy a.id) m.kept=0:=S0 _ λk hk=>if_neg (λhh=>by
   rcases hh.1 with h|h
   ·exact(z k hk).1 h.2
   ·exact(z k hk).2 h.2)
  refine⟨rfl,⟨?_,hs.kept,hs.clock,by show b.ae+1=m.ae+1;rw[hs.ae]⟩,?_⟩
  ·show b.ah++[_]=(m.made++[_]).map (Md.full m.kept);rw[aeu,hs.ah,hs.ae]
   congr 1
   simp only[aez,afw]
   congr 1
   unfold Md.full;dsimp only;rw[z1,z2,z3,z4,z5,if_pos rfl];simp
  ·have key:∀x∈m.made++[({a with ae:=m.ae+1,flags:=a.flags/2* 2}:aO)],x∈m.made\/x={a with ae:=m.ae+1,flags:=a.flags/2* 2}:=λx hx=>by
    rcases aeB.1 hx with h|h
    ·exact .inl h
    ·exact .inr (by simpa using h)
   refine⟨λx hx=>?_,?_,?_,hg.names,hg.tv,λk hk=>?_,hg.some_,λx hx=>?_,λx hx=>?_,λx hx=>?_⟩
   ·rcases key x hx with h|rfl
    ·exact hg.zero x h
    ·exact⟨hc.2.2.1,hc.2.2.2.1,hc.2.2.2.2.1,hc.2.2.2.2.2,by show 0<=a.flags/2* 2;omega,by show a.flags/2* 2<8;omega⟩
   ·show((m.made++[_]).map _).Nodup;rw[aeu,List.nodup_append];refine⟨hg.ids,by simp,λx hx y hy=>?_⟩;simp only[aez,afw,List.mem_singleton] at hy;obtain⟨u,hu,rfl⟩:=aeI.1 hx;rw[hy];exact kR u hu
   ·show(m.made++[_]).length<=32;rw[ad0,afk];omega
   ·obtain⟨s0,s1,s2⟩:=hg.tS k hk;refine⟨s0,?_,?_⟩
    ·show _∈(m.made++[_]).map _;rw[aeu];exact List.mem_append_left _ s1
    ·show _∈(m.made++[_]).map _;rw[aeu];exact List.mem_append_left _ s2
   ·rcases key x hx with h|rfl
    ·exact hg.vP x h
    ·show S (wc a.id) m.kept+S (yn a.id) m.kept<aJ;rw[z1,z3];decide
   ·rcases key x hx with h|rfl
    ·exact hg.s9 x h
    ·show S (we a.id) m.kept+S (yo a.id) m.kept<aJ;rw[z2,z4];decide
   ·rcases key x hx with h|rfl
    ·exact hg.q9 x h
    ·show S (qy a.id) m.kept<=1;rw[z5];decide
def Model.NO{m:Model}{id:Nat}{k:Kept}(h:m.named id=some k):∃i,m.name id=some i/\∃hi:i<m.kept.length,m.kept[i]=k/\k.move.id=id:=by
 unfold Model.named at h;rw[zb] at h;unfold Model.name;cases hx:m.kept.findIdx? (λk=>decide (k.move.id=id)) with
 |none=>rw[hx] at h;cases h
 |some i=>
  rw[hx] at h;simp only[Option.bind_some] at h;obtain⟨hi,hk⟩:=adZ.1 h;refine⟨i,rfl,hi,hk,?_⟩;have:=(List.findIdx?_eq_some_iff_getElem.1 hx);obtain⟨_,hp,_⟩:=this;rw[hk] at hp;simpa using hp
def Model.Lb{m:Model}{id:Nat}(h:m.named id=none):m.name id=none:=by
 unfold Model.named at h;rw[zb] at h;unfold Model.name;cases hx:m.kept.findIdx? (λk=>decide (k.move.id=id)) with
 |none=>rfl
 |some i=>
  rw[hx] at h;simp only[Option.bind_some] at h;have:=(List.findIdx?_eq_some_iff_getElem.1 hx).1;rw[adX this] at h;cases h
def La{l:List Kept}(hn:(l.map (·.move.id)).Nodup){i j:Nat}(hi:i<l.length)(hj:j<l.length)(h:l[i].move.id=l[j].move.id):i=j:=by
 have e1:(l.map (·.move.id))[i]?=some (l[i].move.id):=by rw[aeJ,adX hi];rfl
 have e2:(l.map (·.move.id))[j]?=some (l[i].move.id):=by rw[aeJ,adX hj,h];rfl
 exact(List.getElem?_inj (by simpa using hi) hn).1 (e1.trans e2.symm)
def GR{l:List Kept}(hn:(l.map (·.move.id)).Nodup){i:Nat}(hi:i<l.length)(h1:l[i].fate=1)(f:Int):(l.map λk=>if k.move.id=l[i].move.id/\k.fate=1 then{k with fate:=f} else k)=l.set i {l[i] with fate:=f}:=by
 apply afg;intro j;rw[aeJ,aet];by_cases HB:i=j
 ·subst HB;rw[adX hi,if_pos rfl,if_pos hi,aeK,if_pos ⟨rfl,h1⟩]
 ·rw[if_neg HB];cases hj:l[j]? with
  |none=>rfl
  |some k=>
   obtain⟨N5,hk⟩:=adZ.1 hj;rw[aeK,if_neg];rintro⟨hh,_⟩;rw[<-hk] at hh;exact HB (La hn hi N5 hh.symm)
def oE{m:Model}{i:Nat}(hi:i<m.kept.length)(f:Int):(m.cJ i f).kept=m.kept.set i {m.kept[i] with fate:=f}:=by
 unfold Model.cJ;rw[modify_eq _ _ _ hi]
def Ground.cJ{m:Model}(hg:Ground m){i:Nat}(hi:i<m.kept.length)(h1:m.kept[i].fate=1){f:Int}(hf:f=2\/f=3\/f=4):Ground (m.cJ i f):=by
 have hk:=oE (m:=m) hi f;have mu:=aej hi;have hw:has m.kept[i].move.flags 2:=(hg.tv _ mu).2.2.2 (by omega);have adn:(m.cJ i f).made=m.made:=rfl;have key:∀k∈(m.cJ i f).kept,∃k0∈m.kept,k.move=k0.move/\k.asked=k0.asked/\(k=k0\/k.fate=f/\k0.fate=1):=λk J4=>by
  rw[hk] at J4;rcases aeC J4 with h|h
  ·exact⟨k,h,rfl,rfl,.inl rfl⟩
  ·subst h;exact⟨m.kept[i],mu,rfl,rfl,.inr ⟨rfl,h1⟩⟩
 refine⟨hg.zero,hg.ids,hg.lu,?_,λk J4=>?_,λk J4=>?_,?_,λa ha=>?_,λa ha=>?_,λa ha=>?_⟩
 ·rw[hk,List.map_set];have:m.kept[i].move.id=(m.kept.map (·.move.id))[i]'(by simpa using hi):=by simp
  have e:(m.kept.map (·.move.id)).set i ({m.kept[i] with fate:=f}:Kept).move.id=m.kept.map (·.move.id):=by
   show(m.kept.map (·.move.id)).set i m.kept[i].move.id=_;rw[this,List.set_getElem_self]
  rw[e];exact hg.names
 ·obtain⟨k0,h0,e1,e2,e3⟩:=key k J4;have:=hg.tv k0 h0;rcases e3 with rfl|⟨e3,e4⟩
  ·exact this
  ·rw[e1];have h2:=this.2.2.2 (by omega);exact⟨by omega,by omega,λ_=>by omega,λ_=>h2⟩
 ·obtain⟨k0,h0,e1,e2,e3⟩:=key k J4;rw[e1];exact hg.tS k0 h0
 ·rw[hk,ae2];exact hg.some_
 ·have:=hg.vP a ha;obtain⟨e1,e2,e3,e4,e5⟩:=ended hi h1 hw hf a.id;rw[hk];omega
 ·have:=hg.s9 a ha;obtain⟨e1,e2,e3,e4,e5⟩:=ended hi h1 hw hf a.id;rw[hk];omega
 ·have:=hg.q9 a ha;obtain⟨e1,e2,e3,e4,e5⟩:=ended hi h1 hw hf a.id;rw[hk];omega
def mg.release{b:ax}{m:Model}(hs:mg b m)(hg:Ground m){i:Nat}(hi:i<m.kept.length)(h1:m.kept[i].fate=1){f:Int}(hf:f=3\/f=4)(n:Nat):mg (b.release m.kept[i].move n f) (m.cJ i f):=by
 have mu:=aej hi;have hw:has m.kept[i].move.flags 2:=(hg.tv _ mu).2.2.2 (by omega);obtain⟨gU,hd,hc⟩:=hg.tS _ mu;obtain⟨d0,ED,Fg⟩:=aeI.1 hd;obtain⟨c0,Mw,EE⟩:=aeI.1 hc;have fd:b.find m.kept[i].move.aD=some (Md.full m.kept d0):=by
  rw[hs.find];unfold Model.find;rw[<-Fg,ni hg.ids ED];rfl
 have fc:b.find m.kept[i].move.aq=some (Md.full m.kept c0):=by
  rw[hs.find];unfold Model.find;rw[<-EE,ni hg.ids Mw];rfl
 unfold ax.release;rw[fd,fc];have hk:=oE (m:=m) hi f;refine⟨?_,?_,hs.clock,hs.ae⟩
 ·show((b.ah.map _).map _)=m.made.map (Md.full (m.cJ i f).kept);rw[hk,hs.ah,afx,afx];apply ae6;intro a ha;have hz:=hg.zero a ha;have:=FV (l:=m.kept) (n:=n) (a:=a) (d:=Md.full m.kept d0) (c:=Md.full m.kept c0) hi h1 hw (.inr hf) gU hz.2.2.2.2.1 hz.2.2.2.2.2 (hg.q9 a ha) Fg EE
   (λh=>by
    have e:(m.find m.kept[i].move.aD).map (Md.full m.kept)=some (Md.full m.kept d0):=by rw[<-hs.find];exact fd
    exact hg.one e ha h)
   (λh=>by
    have e:(m.find m.kept[i].move.aq).map (Md.full m.kept)=some (Md.full m.kept c0):=by rw[<-hs.find];exact fc
    exact hg.one e ha h)
  refine Eq.trans this ?_;have h2: ¬f=2:=by omega
  obtain⟨e1,e2,e3,e4,e5⟩:=ended hi h1 hw (.inr hf) a.id;rw[if_neg (λhh=>h2 hh.1),if_neg (λhh=>h2 hh.1)];unfold Md.full;dsimp only;rw[e3,e4]
  rfl
 ·show(b.kept.map _)=_;rw[hs.kept,hk];exact GR hg.names hi h1 f
def GX{t:Move}{named:Option Kept}{k:Kept}{d1 c1 d2 c2:Bool}{many:Nat}(h:has k.move.flags 2-> ¬1<k.fate->d1=d2/\c1=c2):kT t named (some k) d1 c1 many=kT t named (some k) d2 c2 many:=by
 unfold kT;split
 ·rfl
 split
 ·rfl
 split
 ·rfl
 ·dsimp only;split
  ·rfl
  rename_i h2;split
  ·rfl
  split
  ·rfl
  rename_i h3;obtain⟨e1,e2⟩:=h (aea.1 h2) h3;rw[e1,e2]
def BF{t:Move}{named:Option Kept}{k:Kept}{d c:Bool}{many:Nat}(h:kT t named (some k) d c many=0)(hk:0<=k.fate):named=none/\kF t=0/\gw t.flags/\has k.move.flags 2/\ ¬1<k.fate/\ ¬iS t k.move/\many<96:=by
 unfold kT at h;by_cases h1:kF t≠0
 ·rw[if_pos h1] at h;exact absurd h h1
 rw[if_neg h1] at h;by_cases h2: ¬gw t.flags
 ·rw[if_pos h2] at h;exact absurd h (by decide)
 rw[if_neg h2] at h;cases named with
 |some x=>exact absurd h (oR t x.asked)
 |none=>
  dsimp only at h;by_cases h3: ¬has k.move.flags 2
  ·rw[if_pos h3] at h;exact absurd h (by decide)
  rw[if_neg h3] at h;by_cases h4:c8 t k.move
  ·rw[if_pos h4] at h;exact absurd h (by decide)
  rw[if_neg h4] at h;by_cases h5:1<k.fate
  ·rw[if_pos h5] at h;omega
  rw[if_neg h5] at h;by_cases h6:iS t k.move
  ·rw[if_pos h6] at h;exact absurd h (by decide)
  rw[if_neg h6] at h;by_cases h7:has t.flags 4/\d=true
  ·rw[if_pos h7] at h;exact absurd h (by decide)
  rw[if_neg h7] at h;by_cases h8:has t.flags 4/\c=true
  ·rw[if_pos h8] at h;exact absurd h (by decide)
  rw[if_neg h8] at h;by_cases h9:96<=many
  ·rw[if_pos h9] at h;exact absurd h (by decide)
  exact⟨rfl,aea.1 h1,aea.1 h2,aea.1 h3,h5,h6,by omega⟩
def G4{t:Move}(h:kF t=0)(he:gw t.flags): ¬has t.flags 2/\(has t.flags 8↔ ¬has t.flags 4)/\ ¬has t.flags 64/\ ¬has t.flags 128:=by
 unfold kF at h;by_cases h1:t.flags<0\/255<t.flags
 ·rw[if_pos h1] at h;exact absurd h (by decide)
 rw[if_neg h1] at h;by_cases h2:t.id=0
 ·rw[if_pos h2] at h;exact absurd h (by decide)
 rw[if_neg h2] at h;by_cases h3:t.id=aJ-1
 ·rw[if_pos h3] at h;exact absurd h (by decide)
 rw[if_neg h3] at h;by_cases h4: ¬fx t.flags
 ·rw[if_pos h4] at h;exact absurd h (by decide)
 have h4:=aea.1 h4;unfold fx at h4;unfold gw at h4 he;obtain⟨g1,g2,g3⟩:=h4;refine⟨λh2=>?_,⟨λh8 h4=>g1 (.inr (.inr ⟨h4,h8⟩)),λh4=>he.resolve_left h4⟩,λRj=>?_,λyk=>?_⟩
 ·rcases he with he|he
  ·exact g1 (.inl ⟨h2,he⟩)
  ·exact g1 (.inr (.inl ⟨h2,he⟩))
 ·have: ¬16<=t.flags:=λhh=>g2 ⟨he,hh⟩;unfold has at Rj;omega
 ·have: ¬16<=t.flags:=λhh=>g2 ⟨he,hh⟩;unfold has at yk;omega
def zf{b:ax}{m:Model}(hs:mg b m)(hg:Ground m){i:Nat}(hi:i<m.kept.length)(h1:m.kept[i].fate=1){id:Nat}{F:Int}
 (HC:id=m.kept[i].move.aD/\F=64\/id=m.kept[i].move.aq/\F=128):b.je id (has m.kept[i].move.flags F)=m.closed id i:=by
 have mu:=aej hi;have hw:has m.kept[i].move.flags 2:=(hg.tv _ mu).2.2.2 (by omega);obtain⟨gU,hd,hc⟩:=hg.tS _ mu;have Dv:id∈m.made.map (·.id):=by
  rcases HC with⟨h,_⟩|⟨h,_⟩<;>rw[h]<;>assumption
 obtain⟨a,ha,Yo⟩:=aeI.1 Dv;have hfm:m.find id=some a:=by unfold Model.find;rw[<-Yo];exact ni hg.ids ha
 have hz:=hg.zero a ha;have hg3:=hg.cJ hi h1 (f:=3) (.inr (.inl rfl));have SY:=oE (m:=m) hi 3;have Wu:=hg3.full (a:=a) ha;unfold Model.full at Wu;have e1:m.closed id i=decide (8<=(Md.full (m.cJ i 3).kept a).flags):=by
  unfold Model.closed;rw[hfm];dsimp only;have:(m.kept.modify i λk=>{k with fate:=3})=(m.cJ i 3).kept:=rfl;rw[this,Wu]
 have e2:b.je id (has m.kept[i].move.flags F)=decide (8<=(Md.full m.kept a).flags/\ ¬has m.kept[i].move.flags F):=by
  unfold ax.je;rw[hs.find,hfm]
  rfl
 rw[e1,e2,decide_eq_decide];have z':∀l,8<=(Md.full l a).flags↔S (qy a.id) l≠0:=λl=>by
  by_cases h0:S (qy a.id) l=0
  ·have:(Md.full l a).flags=a.flags:=if_pos h0;rw[this];exact⟨λh=>by omega,λh=>absurd h0 h⟩
  ·have:(Md.full l a).flags=a.flags%8+8:=if_neg h0;rw[this];exact⟨λ_=>h0,λ_=>by omega⟩
 rw[z',z',SY];obtain⟨_,_,_,_,e5⟩:=ended hi h1 hw (f:=3) (.inr (.inl rfl)) a.id;have l9:=hg.q9 a ha;rcases HC with⟨h,rfl⟩|⟨h,rfl⟩
 ·have Lz:m.kept[i].move.aD=a.id:=by rw[Yo,h]
  have J7: ¬m.kept[i].move.aq=a.id:=λhh=>gU (by rw[Lz,hh]);by_cases hF:has m.kept[i].move.flags 64
  ·rw[if_pos ⟨by decide,.inl ⟨hF,Lz⟩⟩] at e5;exact⟨λhh=>absurd hF hh.2,λhh=>absurd (show S (qy a.id) _=0 by omega) hh⟩
  ·rw[if_neg (by rintro⟨_,hh|hh⟩;exact hF hh.1;exact J7 hh.2)] at e5;exact⟨λhh=>by have:=hh.1;omega,λhh=>⟨by omega,hF⟩⟩
 ·have J7:m.kept[i].move.aq=a.id:=by rw[Yo,h]
  have Lz: ¬m.kept[i].move.aD=a.id:=λhh=>gU (by rw[hh,J7]);by_cases hF:has m.kept[i].move.flags 128
  ·rw[if_pos ⟨by decide,.inr ⟨hF,J7⟩⟩] at e5;exact⟨λhh=>absurd hF hh.2,λhh=>absurd (show S (qy a.id) _=0 by omega) hh⟩
  ·rw[if_neg (by rintro⟨_,hh|hh⟩;exact Lz hh.2;exact hF hh.1)] at e5;exact⟨λhh=>by have:=hh.1;omega,λhh=>⟨by omega,hF⟩⟩
def mg.me{b:ax}{m:Model}{t:Move}(hs:mg b m)(hg:Ground m):(b.me t).1=(m.me t).1/\mg (b.me t).2 (m.me t).2/\Ground (m.me t).2:=by
 unfold ax.me Model.me;rw[hs.Ep,hs.Ep,hs.kept];cases hp:m.named t.pending with
 |none=>
  rw[Model.Lb hp];exact⟨rfl,hs,hg⟩
 |some k=>
  obtain⟨i,hn,hi,hk,_⟩:=Model.NO hp;rw[hn];dsimp only;rw[adX hi,hk];dsimp only;have mu:k∈m.kept:=by rw[<-hk];exact aej hi
  have Z3:=hg.tv k mu;have Yc:kT t (m.named t.id) (some k) (b.je k.move.aD (has k.move.flags 64)) (b.je k.move.aq (has k.move.flags 128)) m.kept.length=kT t (m.named t.id) (some k) (m.closed k.move.aD i) (m.closed k.move.aq i) m.kept.length:=by
   refine GX (λh2 h3=>?_);have h1:m.kept[i].fate=1:=by rw[hk];have:=Z3.2.2.1 h2;omega
   have c1:=zf hs hg hi h1 (id:=k.move.aD) (F:=64) (by rw[hk];exact .inl ⟨rfl,rfl⟩);have c2:=zf hs hg hi h1 (id:=k.move.aq) (F:=128) (by rw[hk];exact .inr ⟨rfl,rfl⟩);rw[hk] at c1 c2;exact⟨c1,c2⟩
  rw[Yc];by_cases hr:kT t (m.named t.id) (some k) (m.closed k.move.aD i) (m.closed k.move.aq i) m.kept.length≠0
  ·rw[if_pos hr,if_pos hr];exact⟨rfl,hs,hg⟩
  rw[if_neg hr,if_neg hr];obtain⟨J0,pJ,nD,hw,Z5,u2,rV⟩:=BF (aea.1 hr) Z3.1;have h1:m.kept[i].fate=1:=by rw[hk];have:=Z3.2.2.1 hw;omega
  obtain⟨f2,f8,f64,f128⟩:=G4 pJ nD;have hf:bU t=2\/bU t=3:=by unfold bU;split<;>simp
  have UT:bU t=2\/bU t=3\/bU t=4:=by rcases hf with h|h<;>simp[h]
  have Aa:bU t=2↔has t.flags 4:=by unfold bU;split<;>simp_all
  have HE:=hg.cJ hi h1 UT;have Q':=oE (m:=m) hi (bU t);obtain⟨gU,hd,hc⟩:=hg.tS k mu;obtain⟨d0,ED,Fg⟩:=aeI.1 hd;obtain⟨c0,Mw,EE⟩:=aeI.1 hc;have fd:b.find k.move.aD=some (Md.full m.kept d0):=by
   rw[hs.find];unfold Model.find;rw[<-Fg,ni hg.ids ED];rfl
  have fc:b.find k.move.aq=some (Md.full m.kept c0):=by
   rw[hs.find];unfold Model.find;rw[<-EE,ni hg.ids Mw];rfl
  have r1:∀id st ck,wc id ⟨t,{jV t k.move with ae:=st,born:=ck},0⟩=0:=λid st ck=>if_neg (λhh=>absurd hh.1 (show ¬(0:Int)=1 by decide));have r2:∀id st ck,we id ⟨t,{jV t k.move with ae:=st,born:=ck},0⟩=0:=λid st ck=>if_neg (λhh=>absurd hh.1 (show ¬(0:Int)=1 by decide));have rp:∀st ck,ik ⟨t,{jV t k.move with ae:=st,born:=ck},0⟩↔bU t=2:=λst ck=>by
   rw[Aa];show(¬has t.flags 2/\ ¬has t.flags 8)↔_
   constructor
   ·rintro⟨_,hh⟩;by_cases h4:has t.flags 4
    ·exact h4
    ·exact absurd (f8.2 h4) hh
   ·intro h4;exact⟨f2,λh8=>f8.1 h8 h4⟩
  have r3:∀id st ck,yn id ⟨t,{jV t k.move with ae:=st,born:=ck},0⟩=if bU t=2/\k.move.aD=id then bJ t k.move else 0:=λid st ck=>by
   unfold yn;by_cases h:bU t=2/\k.move.aD=id
   ·rw[if_pos h,if_pos ⟨(rp st ck).2 h.1,h.2⟩];rfl
   ·rw[if_neg h,if_neg (λhh=>h ⟨(rp st ck).1 hh.1,hh.2⟩)]
  have r4:∀id st ck,yo id ⟨t,{jV t k.move with ae:=st,born:=ck},0⟩=if bU t=2/\k.move.aq=id then bJ t k.move else 0:=λid st ck=>by
   unfold yo;by_cases h:bU t=2/\k.move.aq=id
   ·rw[if_pos h,if_pos ⟨(rp st ck).2 h.1,h.2⟩];rfl
   ·rw[if_neg h,if_neg (λhh=>h ⟨(rp st ck).1 hh.1,hh.2⟩)]
  have r5:∀id st ck,qy id ⟨t,{jV t k.move with ae:=st,born:=ck},0⟩=0:=λid st ck=>if_neg (λhh=>by
   rcases hh.1 with h|h
   ·exact f64 h.1
   ·exact f128 h.1)
  have Ri:bU t=2->bJ t k.move<=k.move.aA:=λh2=>by
   have h4:=Aa.1 h2;by_cases aZ:k.move.aA<bJ t k.move
   ·exact absurd (.inl ⟨h4,aZ⟩) u2
   ·omega
  refine⟨rfl,⟨?_,?_,?_,?_⟩,?_⟩
  ·unfold ax.release;rw[fd,fc];show((b.ah.map _).map _)=m.made.map (Md.full ((m.cJ i (bU t)).kept++[_]));rw[Q',hs.ah,afx,afx];apply ae6;intro a ha;have hz:=hg.zero a ha;have:=FV (l:=m.kept) (n:=bJ t k.move) (a:=a) (d:=Md.full m.kept d0) (c:=Md.full m.kept c0) hi h1 (by rw[hk];exact hw) UT (by rw[hk];exact gU) hz.2.2.2.2.1 hz.2.2.2.2.2 (hg.q9 a ha) (by rw[hk];exact Fg) (by rw[hk];exact EE)
    (λh=>by
     rw[hk] at h
     have e:(m.find k.move.aD).map (Md.full m.kept)=some (Md.full m.kept d0):=by rw[<-hs.find];exact fd
     exact hg.one e ha h)
    (λh=>by
     rw[hk] at h
     have e:(m.find k.move.aq).map (Md.full m.kept)=some (Md.full m.kept c0):=by rw[<-hs.find];exact fc
     exact hg.one e ha h)
   rw[hk] at this;refine Eq.trans this ?_;obtain⟨e1,e2,e3,e4,e5⟩:=ended hi h1 (by rw[hk];exact hw) UT a.id;rw[hk] at e3 e4;rw[DD,xh,r1,r2,r3,r4,hk];have HC:(Md.full (m.kept.set i {k with fate:=bU t}) a).id=a.id:=rfl;rw[HC];have aaE: ¬gI a.id ⟨t,{jV t k.move with ae:=(m.cJ i (bU t)).ae+1,born:=(m.cJ i (bU t)).clock},0⟩:=λhh=>by
    rcases hh.1 with h|h
    ·exact f64 h.1
    ·exact f128 h.1
   rw[if_neg aaE];have q1:(Md.full m.kept a).dq=a.dq+S (yn a.id) m.kept:=rfl;have q2:(Md.full m.kept a).cq=a.cq+S (yo a.id) m.kept:=rfl;rw[q1,q2,<-e3,<-e4]
   rfl
  ·unfold ax.release;rw[fd,fc];show(b.kept.map _)++[_]=(m.cJ i (bU t)).kept++[_];have hms:(m.cJ i (bU t)).ae=m.ae:=rfl;have hmc:(m.cJ i (bU t)).clock=m.clock:=rfl;rw[Q',hs.kept,hms,hmc]
   congr 1
   ·have:=GR hg.names hi h1 (bU t);rw[hk] at this⊢;exact this
   ·show[(⟨t,{jV t k.move with ae:=b.ae+1,born:=b.clock},0⟩:Kept)]=_;rw[hs.ae,hs.clock]
  ·unfold ax.release;rw[fd,fc];exact hs.clock
  ·unfold ax.release;rw[fd,fc];show b.ae+1=m.ae+1;rw[hs.ae]
  ·refine⟨HE.zero,HE.ids,HE.lu,?_,λx hx=>?_,λx hx=>?_,?_,λa ha=>?_,λa ha=>?_,λa ha=>?_⟩
   ·show(((m.cJ i (bU t)).kept++[_]).map _).Nodup;rw[aeu,List.nodup_append];refine⟨HE.names,by simp,λx hx y hy=>?_⟩;simp only[aez,afw,List.mem_singleton] at hy;rw[Q',List.map_set] at hx;have e:(m.kept.map (·.move.id)).set i ({m.kept[i] with fate:=bU t}:Kept).move.id=m.kept.map (·.move.id):=by
     have:m.kept[i].move.id=(m.kept.map (·.move.id))[i]'(by simpa using hi):=by simp
     show(m.kept.map (·.move.id)).set i m.kept[i].move.id=_;rw[this,List.set_getElem_self]
    rw[e] at hx;obtain⟨z,hz,rfl⟩:=aeI.1 hx;intro Wo;unfold Model.named at J0;have:=afh.1 J0 z hz;rw[hy] at Wo;have h5:z.move.id=t.id:=Wo;simp[h5] at this
   ·rcases aeB.1 hx with hx|hx
    ·exact HE.tv x hx
    ·simp only[List.mem_singleton] at hx;subst hx;refine⟨by show(0:Int)<=0;decide,by show(0:Int)<=4;decide,?_⟩;show has t.flags 2↔(1:Int)<=0;exact⟨λh=>absurd h f2,λh=>absurd h (by decide)⟩
   ·rcases aeB.1 hx with hx|hx
    ·exact HE.tS x hx
    ·simp only[List.mem_singleton] at hx;subst hx;exact⟨gU,hd,hc⟩
   ·show((m.cJ i (bU t)).kept++[_]).length<=96;rw[ad0,afk,Q',ae2];omega
   ·show S (wc a.id) ((m.cJ i (bU t)).kept++[_])+S (yn a.id) ((m.cJ i (bU t)).kept++[_])<aJ;rw[rF,rF,r1,r3,Q'];obtain⟨e1,e2,e3,e4,e5⟩:=ended hi h1 (by rw[hk];exact hw) UT a.id;have:=hg.vP a ha;rw[hk] at e1 e3;rw[hk];by_cases hq:bU t=2/\k.move.aD=a.id
    ·have:=Ri hq.1;rw[if_pos hq.2] at e1;rw[if_pos hq];omega
    ·rw[if_neg hq];omega
   ·show S (we a.id) ((m.cJ i (bU t)).kept++[_])+S (yo a.id) ((m.cJ i (bU t)).kept++[_])<aJ;rw[rF,rF,r2,r4,Q'];obtain⟨e1,e2,e3,e4,e5⟩:=ended hi h1 (by rw[hk];exact hw) UT a.id;have:=hg.s9 a ha;rw[hk] at e2 e4;rw[hk];by_cases hq:bU t=2/\k.move.aq=a.id
    ·have:=Ri hq.1;rw[if_pos hq.2] at e2;rw[if_pos hq];omega
    ·rw[if_neg hq];omega
   ·show S (qy a.id) ((m.cJ i (bU t)).kept++[_])<=1;rw[rF,r5,Q'];obtain⟨e1,e2,e3,e4,e5⟩:=ended hi h1 (by rw[hk];exact hw) UT a.id;have:=hg.q9 a ha;rw[hk] at e5;rw[hk];omega
def mg.ov{b:ax}{m:Model}{t:Move}(hs:mg b m)(hg:Ground m):(b.ov t).1=(m.ov t).1/\mg (b.ov t).2 (m.ov t).2/\Ground (m.ov t).2:=by
 unfold ax.ov Model.ov;split
 ·exact hs.me hg
 ·exact hs.move hg
def GS{m:Model}{i:Nat}(hi:i<m.kept.length)(clock:Int):((m.cJ i 4).kept.map λk=>if jy clock k then{k with fate:=4} else k)=(m.kept.map λk=>if jy clock k then{k with fate:=4} else k)\/ ¬jy clock m.kept[i]:=by
 by_cases ho:jy clock m.kept[i]
 ·left
  rw[oE hi];apply afg;intro j;rw[aeJ,aeJ,aet];by_cases HB:i=j
  ·subst HB;rw[if_pos rfl,if_pos hi,adX hi,aeK,aeK,if_pos ho];rw[if_neg (by rintro⟨hh,_⟩;exact absurd hh (show ¬(4:Int)=1 by decide))]
  ·rw[if_neg HB]
 ·exact .inr ho
def GU{m:Model}{clock:Int}(h:∀k∈m.kept,¬jy clock k):(m.kept.map λk=>if jy clock k then{k with fate:=4} else k)=m.kept:=by
 have:m.kept.map (λk=>if jy clock k then{k with fate:=4} else k)=m.kept.map id:=ae6 λk hk=>if_neg (h k hk);rw[this,List.map_id]
section
variable {α σ τ:Type}
def bl(linked:α->Bool):List α->Nat×Bool
 |[]=>(0,false)
 |x::l=>if linked x then((bl linked l).1+1,(bl linked l).2) else(1,true)
def fr(f:σ->α->Int×σ):σ->List α->Nat->Option (Nat×Int)×σ
 |s,[],_=>(none,s)
 |s,x::l,i=>if(f s x).1≠0 then(some (i,(f s x).1),s) else fr f (f s x).2 l (i+1)
def im(n:Nat):Option (Nat×Int)->List Int
 |none=>aec n 0
 |some (i,c)=>(aec n 1).set i c
def eQ(f:σ->α->Int×σ)(linked:α->Bool):Nat->σ->List α->List Int×σ
 |0,s,_=>([],s)
 |_+1,s,[]=>([],s)
 |fuel+1,s,x::l=>
  if(bl linked (x::l)).2=false then(im (bl linked (x::l)).1 (some ((bl linked (x::l)).1-1,2)),s)
  else match fr f s ((x::l).take (bl linked (x::l)).1) 0 with
   |(none,s')=>(im (bl linked (x::l)).1 none++(eQ f linked fuel s' ((x::l).drop (bl linked (x::l)).1)).1,(eQ f linked fuel s' ((x::l).drop (bl linked (x::l)).1)).2)
   |(some e,_)=>(im (bl linked (x::l)).1 (some e)++(eQ f linked fuel s ((x::l).drop (bl linked (x::l)).1)).1,(eQ f linked fuel s ((x::l).drop (bl linked (x::l)).1)).2)
def DK{f:σ->α->Int×σ}{g:τ->α->Int×τ}{R:σ->τ->Prop}(h:∀s t x,R s t->(f s x).1=(g t x).1/\R (f s x).2 (g t x).2):
 ∀(l:List α)(s:σ)(t:τ)(i:Nat),R s t->(fr f s l i).1=(fr g t l i).1/\((fr f s l i).1=none->R (fr f s l i).2 (fr g t l i).2)
 |[],s,t,i,hr=>⟨rfl,λ_=>hr⟩
 |x::l,s,t,i,hr=>by
  obtain⟨h1,h2⟩:=h s t x hr;unfold fr;rw[h1];by_cases h0:(g t x).1≠0
  ·rw[if_pos h0,if_pos h0];exact⟨rfl,λhh=>by cases hh⟩
  ·rw[if_neg h0,if_neg h0];exact DK h l _ _ _ h2
def wD{f:σ->α->Int×σ}{g:τ->α->Int×τ}{R:σ->τ->Prop}(linked:α->Bool)(h:∀s t x,R s t->(f s x).1=(g t x).1/\R (f s x).2 (g t x).2):
 ∀(n:Nat)(l:List α)(s:σ)(t:τ),R s t->(eQ f linked n s l).1=(eQ g linked n t l).1/\R (eQ f linked n s l).2 (eQ g linked n t l).2
 |0,l,s,t,hr=>⟨rfl,hr⟩
 |n+1,[],s,t,hr=>⟨rfl,hr⟩
 |n+1,x::l,s,t,hr=>by
  unfold eQ;by_cases hw:(bl linked (x::l)).2=false
  ·rw[if_pos hw,if_pos hw];exact⟨rfl,hr⟩
  rw[if_neg hw,if_neg hw];obtain⟨e1,e2⟩:=DK h ((x::l).take (bl linked (x::l)).1) s t 0 hr;cases hf:fr f s ((x::l).take (bl linked (x::l)).1) 0 with
  |mk o s'=>
   cases hg:fr g t ((x::l).take (bl linked (x::l)).1) 0 with
   |mk o' t'=>
    rw[hf,hg] at e1 e2;dsimp only at e1 e2;subst e1;cases o with
    |none=>
     obtain⟨i1,i2⟩:=wD linked h n ((x::l).drop (bl linked (x::l)).1) s' t' (e2 rfl);dsimp only;rw[i1];exact⟨rfl,i2⟩
    |some e=>
     obtain⟨i1,i2⟩:=wD linked h n ((x::l).drop (bl linked (x::l)).1) s t hr;dsimp only;rw[i1];exact⟨rfl,i2⟩
end
end Go.Md
namespace Go.Up
open Go.Sep Go.Den Go.RowKit Go.Prog Go.Md Go.bA
abbrev ax:=Go.Md.ax
structure AG(a:aO):Prop where
 ok:vn a
 um:mI a
 flags:0<=a.flags/\a.flags<16
 ae:0<=a.ae/\a.ae<1000
structure KG(k:Kept):Prop where
 asked:u3 k.asked
 move:u3 k.move
 IY:j0 k.asked
 JJ:j0 k.move
 qF:0<=k.asked.flags/\k.asked.flags<256
 rQ:0<=k.move.flags/\k.move.flags<256
 fate:0<=k.fate/\k.fate<=4
 timeout:0<=k.move.timeout/\k.move.timeout<=1073741824
 born:0<=k.move.born/\k.move.born<=1099511627776
structure Good(b:ax):Prop where
 ids:(b.ah.map (·.id)).Nodup
 names:(b.kept.map (·.move.id)).Nodup
 lu:b.ah.length<=32
 many:b.kept.length<=96
 MB:∀a∈b.ah,AG a
 Ml:∀k∈b.kept,KG k
 rising:b.kept.Pairwise λx y=>x.move.ae<y.move.ae
 stamps:∀k∈b.kept,1<=k.move.ae/\k.move.ae<=b.ae
 clock:0<=b.clock/\b.clock<=1099511627776
 ae:b.ae=b.ah.length+b.kept.length
def idxOf{α:Type}(key:α->Nat)(l:List α):(Nat->Option Int)×Nat:=(λid=>(l.findIdx? λx=>key x=id).map Int.ofNat,l.length)
section
variable {α:Type} {key:α->Nat} {l:List α} {x y:α} {i id:Nat}
def rU(h:l.findIdx? (λx=>key x=id)=some i):∃hi:i<l.length,key l[i]=id/\l.find? (λx=>key x=id)=some l[i]:=by
 obtain⟨hi,h1,h2⟩:=List.findIdx?_eq_some_iff_getElem.1 h;refine⟨hi,by simpa using h1,?_⟩;rw[List.find?_eq_some_iff_getElem];exact⟨h1,i,hi,rfl,λj hj=>by simpa using h2 j hj⟩
def wY(h:l.findIdx? (λx=>key x=id)=none):l.find? (λx=>key x=id)=none:=by
 rw[List.findIdx?_eq_none_iff] at h;rw[afh];intro a ha;have:=h a ha;simpa using this
def mW(h:l.find? (λx=>key x=id)=none):l.findIdx? (λx=>key x=id)=none:=by
 rw[afh] at h;rw[List.findIdx?_eq_none_iff];intro a ha;have:=h a ha;simpa using this
def wX(h:l.find? (λa=>key a=key x)=none):idxOf key (l++[x])=(sr (idxOf key l).1 (key x) (some (l.length:Int)),(idxOf key l).2+1):=by
 unfold idxOf;refine Prod.ext ?_ (by simp)
 funext id
 dsimp only[sr];rw[List.findIdx?_append];by_cases e:id=key x
 ·subst e;rw[if_pos rfl,mW h];simp
 ·rw[if_neg e];have:List.findIdx? (λa=>decide (key a=id)) [x]=none:=by simp;exact λh=>e h.symm
  rw[this];cases l.findIdx? λx=>decide (key x=id)<;>simp
def JW(hi:i<l.length)(hk:key x=key l[i]):idxOf key (l.set i x)=idxOf key l:=by
 unfold idxOf;refine Prod.ext ?_ (by simp)
 funext id
 dsimp only
 congr 1
 have aar:∀(l:List α)(i:Nat)(hi:i<l.length),key x=key l[i]->(l.set i x).findIdx? (λx=>key x=id)=l.findIdx? λx=>key x=id:=by
  intro l
  induction l with
  |nil=>intro i hi;simp at hi
  |cons a l ih=>
   intro i hi hk;cases i with
   |zero=>simp only[List.set_cons_zero,List.findIdx?_cons];simp at hk;rw[hk]
   |succ i=>simp only[afc,List.findIdx?_cons];rw[ih i (by simpa using hi) (by simpa using hk)]
 exact aar l i hi hk
def uL(hn:(l.map key).Nodup)(hi:i<l.length):l.findIdx? (λx=>key x=key l[i])=some i:=by
 rw[List.findIdx?_eq_some_iff_getElem];refine⟨hi,by simp,λj hj=>?_⟩;have aZ:j<l.length:=by omega
 have:=ae3.1 hn j i (by simpa using aZ) (by simpa using hi) hj;simpa using this
def map_set(hn:(l.map key).Nodup)(hi:i<l.length)(g:α->α):(l.map λx=>if key x=key l[i] then g x else x)=l.set i (g l[i]):=by
 apply List.ext_getElem (by simp);intro j h1 h2;simp only[aen] at h1;rw[List.getElem_map,List.getElem_set];by_cases e:i=j
 ·subst e;simp
 ·rw[if_neg e,if_neg];intro hk;have a:=uL hn h1;rw[hk,uL hn hi] at a;exact e (aeh.inj a)
end
def cM:Nat->List Kept->List kq
 |_,[]=>[]
 |i,k::l=>(k.move.ae,(i:Int))::cM (i+1) l
def iQ:∀(i:Nat)(l:List Kept),(cM i l).length=l.length
 |_,[]=>rfl
 |i,k::l=>by simp[cM,iQ (i+1) l]
def iR:∀(i:Nat)(l:List Kept)(j:Nat),(cM i l)[j]?=(l[j]?).map λk=>(k.move.ae,((i+j:Nat):Int))
 |_,[],j=>by simp[cM]
 |i,k::l,0=>by simp[cM]
 |i,k::l,j+1=>by simp only[cM,aed,iR (i+1) l j];rw[show i+1+j=i+(j+1) by omega]
def rq:∀(i:Nat)(l:List Kept)(k:Kept),cM i (l++[k])=cM i l++[(k.move.ae,((i+l.length:Nat):Int))]
 |i,[],k=>by simp[cM]
 |i,x::l,k=>by simp only[afa,cM,rq (i+1) l k];simp;omega
def wx{i:Nat}{l:List Kept}{x:kq}(h:x∈cM i l):∃k∈l,x.1=k.move.ae:=by
 obtain⟨j,hj⟩:=aff h;rw[iR] at hj;cases hk:l[j]? with
 |none=>rw[hk] at hj;cases hj
 |some k=>rw[hk] at hj;cases hj;exact⟨k,aep hk,rfl⟩
def D7{l:List Kept}{j:Nat}{k:Kept}(i:Nat)(hj:j<l.length)(hk:k.move.ae=l[j].move.ae):cM i (l.set j k)=cM i l:=by
 apply afg;intro n;rw[iR,iR,aet];by_cases e:j=n
 ·subst e;rw[if_pos rfl,if_pos hj,adX hj];simp[hk]
 ·rw[if_neg e]
def dh(k:Kept):Option Item:=if k.fate=1/\0<k.move.timeout then some ⟨k.move.born+k.move.timeout,k.move.ae,k.move.id⟩ else none
abbrev Eu(l:List aO):=idxOf (λx:aO=>x.id) l
abbrev B8(l:List Kept):=idxOf (λx:Kept=>x.move.id) l
def c7(b:ax):C:=⟨b.ah,b.kept,Eu b.ah,B8 b.kept,cM 0 b.kept,b.kept.filterMap dh,b.clock,b.ae⟩
def nE{k:Kept}{x:Item}(h:dh k=some x):x.ae=k.move.ae/\x.id=k.move.id/\x.due=k.move.born+k.move.timeout/\k.fate=1/\0<k.move.timeout:=by
 unfold dh at h;split at h
 ·rename_i hc;cases h;exact⟨rfl,rfl,rfl,hc⟩
 ·cases h
section
variable {b:ax}
def Good.tU(h:Good b):oT (cM 0 b.kept):=by
 unfold oT;rw[ae3];intro i j hi hj HB;have qJ:i<b.kept.length:=by simpa [iQ] using hi
 have HA:j<b.kept.length:=by simpa [iQ] using hj
 have e1:=iR 0 b.kept i;have e2:=iR 0 b.kept j;rw[adX hi,adX qJ] at e1;rw[adX hj,adX HA] at e2;have e1:=aeh.inj e1;have e2:=aeh.inj e2;rw[e1,e2];exact ae3.1 h.rising i j qJ HA HB
def xm(b:ax):(b.kept.filterMap dh).length<=b.kept.length:=List.length_filterMap_le _ _
def Good.KC(h:Good b){i j:Nat}(hi:i<b.kept.length)(hj:j<b.kept.length)(he:b.kept[i].move.ae=b.kept[j].move.ae):i=j:=by
 rcases Nat.lt_trichotomy i j with h1|h1|h1
 ·have:=ae3.1 h.rising i j hi hj h1;omega
 ·exact h1
 ·have:=ae3.1 h.rising j i hj hi h1;omega
def Good.On(h:Good b){i:Nat}(hi:i<b.kept.length){k:Kept}(hk:dh k=none){x:Item}(hx:dh b.kept[i]=some x):
 (x::(b.kept.set i k).filterMap dh).Perm (b.kept.filterMap dh)/\∀y∈(b.kept.set i k).filterMap dh,y.ae≠x.ae:=by
 constructor
 ·have key:∀(l:List Kept)(i:Nat)(hi:i<l.length),dh l[i]=some x->(x::(l.set i k).filterMap dh).Perm (l.filterMap dh):=by
   intro l
   induction l with
   |nil=>intro i hi;simp at hi
   |cons a l ih=>
    intro i hi hx;cases i with
    |zero=>
     simp only[List.set_cons_zero,List.getElem_cons_zero] at hx⊢;rw[List.filterMap_cons_none hk,List.filterMap_cons_some hx]
    |succ i=>
     simp only[afc,List.getElem_cons_succ] at hx⊢;have:=ih i (by simpa using hi) hx;cases ha:dh a with
     |none=>rw[List.filterMap_cons_none ha,List.filterMap_cons_none ha];exact this
     |some y=>rw[List.filterMap_cons_some ha,List.filterMap_cons_some ha];exact(aem.swap _ _ _).trans (this.cons y)
  exact key _ i hi hx
 ·intro y hy he;obtain⟨a,ha,hay⟩:=List.mem_filterMap.1 hy;obtain⟨j,hj⟩:=aff ha;rw[aet] at hj;by_cases e:i=j
  ·subst e;rw[if_pos rfl,if_pos hi] at hj;cases hj;rw[hk] at hay;cases hay
  ·rw[if_neg e] at hj;have N5:=(adZ.1 hj).1;have s1:=(nE hay).1;have s2:=(nE hx).1;have UN:b.kept[j]=a:=by rw[adX N5] at hj;exact aeh.inj hj
   exact e (h.KC hi N5 (by rw[UN];omega))
def CA{l:List Kept}{i:Nat}(hi:i<l.length){k:Kept}(hk:dh k=none)(hx:dh l[i]=none):(l.set i k).filterMap dh=l.filterMap dh:=by
 induction l generalizing i with
 |nil=>simp at hi
 |cons a l ih=>
  cases i with
  |zero=>simp only[List.set_cons_zero,List.getElem_cons_zero] at hx⊢;rw[List.filterMap_cons_none hk,List.filterMap_cons_none hx]
  |succ i=>
   simp only[afc,List.getElem_cons_succ] at hx⊢;rw[List.filterMap_cons,List.filterMap_cons,ih (by simpa using hi) hx]
end
def Ext(c:C)(hs:List C)(c':C)(cV:List C)(n:Nat):Prop:=∃Ug,cV=Ug++hs/\(c'::Ug).getLast?=some c/\Ug.length<=n
def Ext.refl(c:C)(hs:List C)(n:Nat):Ext c hs c hs n:=⟨[],rfl,rfl,ad6 _⟩
def Ext.trans{c c' c'':C}{hs cV tE:List C}{n m:Nat}(h1:Ext c hs c' cV n)(h2:Ext c' cV c'' tE m):Ext c hs c'' tE (n+m):=by
 obtain⟨m1,rfl,h3,h4⟩:=h1;obtain⟨m2,rfl,h5,h6⟩:=h2;refine⟨m2++m1,by simp,?_,by simp;omega⟩;cases m1 with
 |nil=>simp at h3;subst h3;simpa using h5
 |cons a m1=>
  rw[List.getLast?_cons_cons] at h3;rw[<-afa,List.getLast?_append,h3];rfl
def Ext.mono{c c':C}{hs cV:List C}{n m:Nat}(h:Ext c hs c' cV n)(hm:n<=m):Ext c hs c' cV m:=by
 obtain⟨m1,h1,h3,h4⟩:=h;exact⟨m1,h1,h3,by omega⟩
def Ext.len{c c':C}{hs cV:List C}{n:Nat}(h:Ext c hs c' cV n):cV.length<=hs.length+n:=by
 obtain⟨m1,rfl,h3,h4⟩:=h;simp;omega
def Ext.back{c c':C}{hs cV:List C}{n:Nat}(h:Ext c hs c' cV n):qE hs.length c' cV=(c,hs):=by
 obtain⟨m1,rfl,h3,-⟩:=h
 induction m1 generalizing c' with
 |nil=>simp at h3;subst h3;exact zj (ad4 _)
 |cons a m1 ih=>
  rw[List.getLast?_cons_cons] at h3;rw[afa];unfold qE;rw[if_pos (by simp)];exact ih h3
def bj(p:Nat)(x:ax×List C):HP:=L7 (Good x.1) (cP p (c7 x.1,x.2))
section
variable {W:World} {L R:LH} {K:VK} {X:WK} {p:Nat} {b:ax} {hs:List C} {f:ax×List C->LH} {id:Nat} {a old:aO}
def Ht[i:Lc (bj p) L (b,hs) f](h:∀la lk ti tn vs bx R,Good b->gn p la lk bx vs hs (c7 b)->
 (∀M b' cV B7 kG Y,Good b'->gn p la lk kG B7 cV (c7 b')->T W (M++f (b',cV)) Y->T W (M++dP p (dD la lk ti tn B7 (c7 b'))::ox ak 14 la (p,(c7 b').ah)::ox aI 33 lk (p,(c7 b').kept)::lz ti (c7 b').lY::lz tn (c7 b').eg::rC kG::R) Y)->
 T W (dP p (dD la lk ti tn vs (c7 b))::ox ak 14 la (p,(c7 b).ah)::ox aI 33 lk (p,(c7 b).kept)::lz ti (c7 b).lY::lz tn (c7 b).eg::rC bx::R) X):T W L X:=
 zN (P:=bj p) λR l9 w hw=>by
  obtain⟨hg,hw⟩:=hw.and;refine OL (λla lk ti tn vs bx hc=>h la lk ti tn vs bx R hg hc λM b' cV B7 kG Y Rb GK hy=>?_) w hw;refine T.perm (Ai (R:=M++R) GK (T.perm ?_ ae'.symm)) (by
   have:=ad7 (l₁:=M) (l₂:=[dP p (dD la lk ti tn B7 (c7 b')),ox ak 14 la (p,(c7 b').ah),ox aI 33 lk (p,(c7 b').kept),lz ti (c7 b').lY,lz tn (c7 b').eg,rC kG])|>.append_right R
   simpa using this)
  refine λw' Mn=>l9 M (b',cV) Y hy w' ?_;have:=(Mn.perm ae');exact(St.and_intro Rb this).perm ae'.symm
def mn[i:Lc (bj p) L (b,hs) f](h:Good b->T W L X):T W L X:=λw hw=>by
 obtain⟨k,hk,_⟩:=i.at_;exact h ((hw.focus hk).and).1 w hw
def B6{f1:Core->LH}{f2:Nat×List aO->LH}{f3:(Nat->Option Int)×Nat->LH}{q:Core}[i1:Lc (dP p) L q f1][i2:Lc (ox ak 14 q.la) L (p,b.ah) f2][i3:Lc (lz q.ti) L (Eu b.ah) f3](lu:b.ah.length<=32)
 (h:T W L (K (.tuple ⟨[.agg ⟨ak ((b.find id).getD zA)⟩,.bool (b.find id).isSome]⟩))):T W L (bX (some ⟨p,0,none⟩) (nm id) K):=by
 unfold bX;apply ws;intros;refine zm (t:=q.ti) (x:=Eu b.ah) ?_;cases hi:(b.ah.findIdx? λx=>x.id=id) with
 |none=>
  have e1:(Eu b.ah).1 id=none:=by show afA _ _=_;rw[hi];rfl
  have e2:b.find id=none:=wY (key:=λx:aO=>x.id) hi;rw[e1];rw[e2] at h;simp only[aeE,aev,aeQ,aew] at h⊢;apply ws;intros;exact T.dp h
 |some n=>
  have e1:(Eu b.ah).1 id=some (n:Int):=by show afA _ _=_;rw[hi];rfl
  obtain⟨hn,hk,hf⟩:=rU (key:=λx:aO=>x.id) hi;have e2:b.find id=some b.ah[n]:=hf;rw[e1];rw[e2] at h;simp only[aeE,aev,aeQ,aew] at h⊢;apply ws;intros;refine ZE (l:=q.la) (x:=b.ah[n]) (adX hn) (by omega) ?_;apply ws;intros;exact T.dp h
def sq[i:Lc (bj p) L (b,hs) f](h:T W L (K (.tuple ⟨[.agg ⟨ak ((b.find id).getD zA)⟩,.bool (b.find id).isSome]⟩))):T W L (bX (some ⟨p,0,none⟩) (nm id) K):=by
 have hL:f (b,hs)=L:=i.same;refine Ht (p:=p) λla lk ti tn vs bx R hg hc l9=>?_;exact B6 (b:=b) hg.lu (l9 [] b hs vs bx _ hg hc (by rw[hL];exact h))
def E8{f1:Core->LH}{f2:Nat×List Kept->LH}{f3:(Nat->Option Int)×Nat->LH}{q:Core}[i1:Lc (dP p) L q f1][i2:Lc (ox aI 33 q.lk) L (p,b.kept) f2][i3:Lc (lz q.tn) L (B8 b.kept) f3](lu:b.kept.length<=96)
 (h:T W L (K (.tuple ⟨[.agg ⟨aI ((b.named id).getD zK)⟩,.bool (b.named id).isSome]⟩))):T W L (eB (some ⟨p,0,none⟩) (nm id) K):=by
 unfold eB;apply ws;intros;refine zm (t:=q.tn) (x:=B8 b.kept) ?_;cases hi:(b.kept.findIdx? λx=>x.move.id=id) with
 |none=>
  have e1:(B8 b.kept).1 id=none:=by show afA _ _=_;rw[hi];rfl
  have e2:b.named id=none:=wY (key:=λx:Kept=>x.move.id) hi;rw[e1];rw[e2] at h;simp only[aeE,aev,aeQ,aew] at h⊢;apply ws;intros;exact T.dp h
 |some n=>
  have e1:(B8 b.kept).1 id=some (n:Int):=by show afA _ _=_;rw[hi];rfl
  obtain⟨hn,hk,hf⟩:=rU (key:=λx:Kept=>x.move.id) hi;have e2:b.named id=some b.kept[n]:=hf;rw[e1];rw[e2] at h;simp only[aeE,aev,aeQ,aew] at h⊢;apply ws;intros;refine Pj (l:=q.lk) (x:=b.kept[n]) (adX hn) (by omega) ?_;apply ws;intros;exact T.dp h
def E7[i:Lc (bj p) L (b,hs) f](h:T W L (K (.tuple ⟨[.agg ⟨aI ((b.named id).getD zK)⟩,.bool (b.named id).isSome]⟩))):T W L (eB (some ⟨p,0,none⟩) (nm id) K):=by
 have hL:f (b,hs)=L:=i.same;refine Ht (p:=p) λla lk ti tn vs bx R hg hc l9=>?_;exact E8 (b:=b) hg.many (l9 [] b hs vs bx _ hg hc (by rw[hL];exact h))
def Pa[i:Lc (bj p) L (b,hs) f](h:T W L (K (.bool (decide (b.kept.length<96))))):T W L (kJ (some ⟨p,0,none⟩) K):=by
 have hL:f (b,hs)=L:=i.same;refine Ht (p:=p) λla lk ti tn vs bx R hg hc l9=>?_;have fin:=l9 [] b hs vs bx _ hg hc (by rw[hL];exact h);unfold kJ
 repeat' first|apply ws;intros|apply wb|with_reducible refine I2 ?_|fail
 refine T.fin fin ?_
 congr 1
 rw[decide_eq_decide];show((b.kept.length:Nat):Int)<96↔_;omega
def Jt[i:Lc (bj p) L (b,hs) f](h:T W L (K (.i (hs.length:Int)))):T W L (cX (some ⟨p,0,none⟩) K):=by
 have hL:f (b,hs)=L:=i.same;refine Ht (p:=p) λla lk ti tn vs bx R hg hc l9=>?_;have fin:=l9 [] b hs vs bx _ hg hc (by rw[hL];exact h);unfold cX;refine tQ ?_;refine zp ?_;refine VU (p:=p) ?_;apply ws;intros;have:(dD la lk ti tn vs (c7 b)).vs.length=hs.length:=by show vs.reverse.length=_;rw[aeU,hc.len]
 rw[this];exact fin
def FA(hg:Good b){n:Nat}(hn:n<b.ah.length)(hk:b.ah[n].id=a.id):c7 (b.aF a)={c7 b with ah:=b.ah.set n {a with ae:=b.ah[n].ae}}:=by
 have e:(b.aF a).ah=b.ah.set n {a with ae:=b.ah[n].ae}:=by
  show(b.ah.map λx=>if x.id=a.id then{a with ae:=x.ae} else x)=_;have:=map_set (key:=λx:aO=>x.id) hg.ids hn λx=>{a with ae:=x.ae};simp only[hk] at this;exact this
 unfold c7;have e9:Eu (b.ah.set n {a with ae:=b.ah[n].ae})=Eu b.ah:=JW hn hk.symm;rw[e,e9]
 rfl
def Good.aF(hg:Good b){n:Nat}(hn:n<b.ah.length)(hk:b.ah[n].id=a.id)(ha:AG {a with ae:=b.ah[n].ae}):Good (b.aF a):=by
 have e:(b.aF a).ah=b.ah.set n {a with ae:=b.ah[n].ae}:=congrArg C.ah (FA hg hn hk);have abf:(b.aF a).ah.map (·.id)=b.ah.map (·.id):=by
  rw[e,List.map_set];refine List.ext_getElem (by simp) λi h1 h2=>?_;rw[List.getElem_set];split
  ·rename_i he;subst he;simp[hk]
  ·rfl
 refine⟨by rw[abf];exact hg.ids,hg.names,by rw[e,ae2];exact hg.lu,hg.many,?_,hg.Ml,hg.rising,hg.stamps,hg.clock,?_⟩
 ·rw[e];intro x hx;rcases aeC hx with hx|hx
  ·exact hg.MB x hx
  ·subst hx;exact ha
 ·rw[e,ae2];exact hg.ae
def E1[i:Lc (bj p) L (b,hs) f](hf:b.find a.id=some old)(ha:AG {a with ae:=old.ae})(hl:hs.length<900000)
 (h:∀cV,Ext (c7 b) hs (c7 (b.aF a)) cV 1->T W (f (b.aF a,cV)) (K (.i 0))):T W L (gP (some ⟨p,0,none⟩) (ak a) K):=by
 refine Ht (p:=p) λla lk ti tn vs bx R hg hc l9=>?_;have lu:=hg.lu;obtain⟨n,hi⟩:∃n,(b.ah.findIdx? λx=>x.id=a.id)=some n:=by
  cases hi:(b.ah.findIdx? λx=>x.id=a.id) with
  |none=>rw[show b.find a.id=none from wY (key:=λx:aO=>x.id) hi] at hf;cases hf
  |some n=>exact⟨n,rfl⟩
 obtain⟨hn,hk,Wu⟩:=rU (key:=λx:aO=>x.id) hi;have e2:b.find a.id=some b.ah[n]:=Wu;rw[hf] at e2;have e3:=aeh.inj e2;subst e3;have e1:(Eu b.ah).1 a.id=some (n:Int):=by show afA _ _=_;rw[hi];rfl
 have Cw:=FA hg hn hk;have JX:(dD la lk ti tn vs (c7 b)).vs.length<1000000:=by show vs.reverse.length<_;rw[aeU,hc.len];omega
 unfold gP;apply ws;intros;refine B6 (b:=b) hg.lu ?_;rw[hf];simp only[aev,aew];apply ws;intros;refine zm (t:=ti) (x:=(c7 b).lY) ?_;rw[show(c7 b).lY.1 a.id=some (n:Int) from e1];simp only[aev,aew];apply ws;intros;refine V5 (l:=la) (y:=b.ah[n]) (adX hn) (show b.ah.length<_ by omega) JX λr4 r1 r2=>?_;apply ws;intros;refine cA (cA (cA (cA (cA ?_))));have EF:∀kG,(∀x∈bx,x∈kG)->(r4,ak b.ah[n])∈kG->(r1,[.p (some (ad la 0))])∈kG->(r2,[.i (n:Int)])∈kG->gn p la lk kG (Ag r4 r1 r2::vs) (c7 b::hs) (c7 (b.aF a)):=by
  intro kG wa m1 m2 m3;refine⟨?_,hc.mono wa⟩;have:=zn.Qg (p:=p) (la:=la) (lk:=lk) (c:=c7 (b.aF a)) m1 m2 m3 (by rw[Cw];simpa using hn);have ee:{c7 (b.aF a) with ah:=(c7 (b.aF a)).ah.set n b.ah[n]}=c7 b:=by
   rw[Cw];simp only[afb,List.set_getElem_self]
   rfl
  rw[ee] at this;exact this
 have fin:=λkG c1=>l9 [] (b.aF a) (c7 b::hs) (Ag r4 r1 r2::vs) kG _ (hg.aF hn hk ha) c1 (h _ ⟨[c7 b],rfl,rfl,ad4 _⟩);rw[Cw] at fin;simp only[dD,afs] at fin;exact fin _ (Cw▸EF _ (λx hx=>by simp[hx]) (by simp) (by simp) (by simp))
end
section
variable {W:World} {L R:LH} {K:VK} {X:WK} {p:Nat} {b:ax} {hs:List C} {f:ax×List C->LH} {id:Nat} {a old:aO}
def Kw{q:Core}{f1:Core->LH}[i:Lc (dP p) L q f1](hl:q.vs.length<1000000)(hs:0<=q.ae/\q.ae<1000000)
 (h:∀r,T W (Sep.pt r [.p (some (ad p 0))]::f1 {q with vs:=q.vs++[wo r],ae:=q.ae+1}) (K (.i (q.ae+1)))):T W L (kH (some ⟨p,0,none⟩) K):=by
 unfold kH
 repeat' first|apply ws;intros|apply wb|with_reducible refine HM ?_|fail
 rename_i r;rw[ar (by omega)];have i2:=i.next {q with ae:=q.ae+1};refine rG (p:=p) (q:={q with ae:=q.ae+1}) hl rfl rfl ?_;have i3:=i.next {q with vs:=q.vs++[wo r],ae:=q.ae+1};apply ws;intros;exact h r
def ax.more(b:ax)(a:aO):ax:={b with ae:=b.ae+1,ah:=b.ah++[{a with ae:=b.ae+1}]}
def Good.more(hg:Good b)(hf:b.find a.id=none)(lu:b.ah.length<32)(ha:AG {a with ae:=b.ae+1}):Good (b.more a):=by
 have rK:=hg.ae;have many:=hg.many;refine⟨?_,hg.names,by show(b.ah++[_]).length<=32;simp;omega,hg.many,?_,hg.Ml,hg.rising,λk hk=>⟨(hg.stamps k hk).1,by have:=(hg.stamps k hk).2;show _<=b.ae+1;omega⟩,hg.clock,by show b.ae+1=(((b.ah++[_]).length:Nat):Int)+(b.kept.length:Int);simp;omega⟩
 ·show((b.ah++[_]).map _).Nodup;rw[aeu];rw[List.nodup_append];refine⟨hg.ids,by simp,?_⟩;intro x hx y hy;simp at hy;subst hy;obtain⟨z,hz,rfl⟩:=aeI.1 hx;have:=afh.1 hf z hz;simpa using this
 ·intro x hx;rcases aeB.1 hx with hx|hx
  ·exact hg.MB x hx
  ·simp at hx;subst hx;exact ha
def Uf(hf:b.find a.id=none):c7 (b.more a)={c7 b with ae:=b.ae+1,lY:=(sr (c7 b).lY.1 a.id (some (b.ah.length:Int)),(c7 b).lY.2+1),ah:=b.ah++[{a with ae:=b.ae+1}]}:=by
 have e9:Eu (b.ah++[{a with ae:=b.ae+1}])=(sr (Eu b.ah).1 a.id (some (b.ah.length:Int)),(Eu b.ah).2+1):=wX (key:=λx:aO=>x.id) (x:={a with ae:=b.ae+1}) hf;unfold c7 ax.more;dsimp only;rw[e9]
def Fw{m:Nat->Option Int}{k:Nat}{v:Int}{n:Nat}(h:m k=none):(sr (sr m k (some v)) k none,n+1-1)=(m,n):=by
 refine Prod.ext ?_ rfl
 funext j
 dsimp only[sr];by_cases e:j=k
 ·subst e;rw[if_pos rfl,h]
 ·rw[if_neg e,if_neg e]
def Qj[i:Lc (bj p) L (b,hs) f](hf:b.find a.id=none)(lu:b.ah.length<32)(ha:AG {a with ae:=b.ae+1})(hl:hs.length<900000)
 (h:∀cV,Ext (c7 b) hs (c7 (b.more a)) cV 3->T W (f (b.more a,cV)) (K (.i 0))):T W L (jf (some ⟨p,0,none⟩) (ak a) K):=by
 refine Ht (p:=p) λla lk ti tn vs bx R hg hc l9=>?_;have rK:=hg.ae;have many:=hg.many;have kR:(Eu b.ah).1 a.id=none:=by show afA _ _=_;rw[mW (key:=λx:aO=>x.id) hf];rfl
 have JX:vs.reverse.length<900000:=by rw[aeU,hc.len];omega
 unfold jf;apply ws;intros;refine I7 (l:=la) ?_;apply ws;intros;refine dO (by show decide (((b.ah.length:Nat):Int)>=32)=false;simp;omega) ?_;apply ws;intros;refine zm (t:=ti) (x:=(c7 b).lY) ?_;rw[show(c7 b).lY.1 a.id=none from kR];simp only[aeE,aeQ];apply ws;intros;refine Kw (p:=p) (q:=dD la lk ti tn vs (c7 b)) (by show vs.reverse.length<_;omega) (by show 0<=b.ae/\b.ae<_;omega) λr3=>?_;apply ws;intros;refine I7 (l:=la) ?_;apply ws;intros;refine Kv (t:=ti) (x:=(c7 b).lY) (show b.ah.length<=1000 by omega) kR ?_;apply ws;intros;refine rG (p:=p) (by show(vs.reverse++[_]).length<_;simp at JX⊢;omega) rfl rfl ?_;apply ws;intros;refine Pu (l:=la) (x:={a with ae:=b.ae+1}) (show b.ah.length<_ by omega) (by show((vs.reverse++[_])++[_]).length<_;simp at JX⊢;omega) λr4 r5=>?_;apply ws;intros;rename_i r1 r2;refine cA (cA (cA (cA (cA ?_))));have Cw:=Uf (a:=a) hf;have EF:∀kG,(∀x∈bx,x∈kG)->(r1,[.p (some (ad p 0))])∈kG->(r2,ak {a with ae:=b.ae+1})∈kG->(r3,[.p (some (ad p 0))])∈kG->(r4,[.p (some (ad la 0))])∈kG->(r5,[.i (b.ah.length:Int)])∈kG->
                                                                                                                                                                                                    gn p la lk kG (xt r4 r5::MQ r1 r2::wo r3::vs) ({c7 b with ae:=b.ae+1,lY:=(sr (c7 b).lY.1 a.id (some (b.ah.length:Int)),(c7 b).lY.2+1)}::{c7 b with ae:=b.ae+1}::c7 b::hs) (c7 (b.more a)):=by
  intro kG wa m1 m2 m3 m4 m5;refine⟨?_,?_,?_,hc.mono wa⟩
  ·have:=zn.R1 (p:=p) (la:=la) (lk:=lk) (c:=c7 (b.more a)) m4 m5 (by show b.ah.length<=(b.ah++[_]).length;simp);have ee:{c7 (b.more a) with ah:=(c7 (b.more a)).ah.take b.ah.length}={c7 b with ae:=b.ae+1,lY:=(sr (c7 b).lY.1 a.id (some (b.ah.length:Int)),(c7 b).lY.2+1)}:=by
    rw[Cw];dsimp only;rw[List.take_left];rfl
   rw[ee] at this;exact this
  ·have:=zn.open_ (p:=p) (la:=la) (lk:=lk) (c:={c7 b with ae:=b.ae+1,lY:=(sr (c7 b).lY.1 a.id (some (b.ah.length:Int)),(c7 b).lY.2+1)}) (x:={a with ae:=b.ae+1}) m1 m2 (show b.ah.length+1<=1000 by omega) (by show(sr _ _ _ _).isSome=true;unfold sr;rw[if_pos rfl];rfl) (Fw (show(c7 b).lY.1 a.id=none from kR));exact this
  ·exact zn.next (c:={c7 b with ae:=b.ae+1}) m3 (by show adU.wrap (b.ae+1-1)=b.ae;rw[ar (by omega)];omega)
 have fin:=λkG c1=>l9 [] (b.more a) _ (xt r4 r5::MQ r1 r2::wo r3::vs) kG _ (hg.more hf lu ha) c1 (h _ ⟨[{c7 b with ae:=b.ae+1,lY:=(sr (c7 b).lY.1 a.id (some (b.ah.length:Int)),(c7 b).lY.2+1)},{c7 b with ae:=b.ae+1},c7 b],rfl,rfl,ad4 _⟩);rw[Cw] at fin;simp only[dD,afs] at fin;exact fin _ (Cw▸EF _ (λx hx=>by simp[hx]) (by repeat (first|exact aeO.head _|apply aeO.tail)) (by repeat (first|exact aeO.head _|apply aeO.tail)) (by repeat (first|exact aeO.head _|apply aeO.tail)) (by repeat (first|exact aeO.head _|apply aeO.tail)) (by repeat (first|exact aeO.head _|apply aeO.tail)))
end
section
variable {W:World} {L R:LH} {K:VK} {X:WK} {p:Nat} {b:ax} {hs:List C} {f:ax×List C->LH} {id:Nat} {k:Kept} {asked t:Move} {fate:Int}
instance{x1 x2 x3 x4:Value}{x y:Int}{n:Nat}:Wr [x1,x2,x3,x4] 0 ([.i x,.i y]++(nm n++[])) (dI ⟨x,y,n⟩):=⟨by simp[over,dI,nm],by simp[nm],λv h=>mE ⟨x,y,n⟩ v (by simpa [dI] using h)⟩
def T.IJ{la lk ti tn:Nat}{vs:LV}{st:List kq}{e e':List Item}{x y:Int}(he:e.Perm e')(h:T W (dP p ⟨la,lk,ti,tn,vs,st,e',x,y⟩::R) X):T W (dP p ⟨la,lk,ti,tn,vs,st,e,x,y⟩::R) X:=T.DN (q:=⟨la,lk,ti,tn,vs,st,e,x,y⟩) he h
def IH(k:Kept):Item:=⟨k.move.born+k.move.timeout,k.move.ae,k.move.id⟩
def Oy(hk:KG k)(h:T W L (K (.tuple ⟨[.agg ⟨dI (IH k)⟩,.bool (dh k).isSome]⟩))):T W L (qh (aI k) K):=by
 have h1:=hk.timeout;have h2:=hk.born;unfold qh;apply ws;intros;rw[ar (by omega)];have hd:(dh k).isSome=decide (k.fate=1/\0<k.move.timeout):=by
  unfold dh;split
  ·rename_i hc;simp[hc]
  ·rename_i hc;simp[hc]
 rw[hd] at h;refine bw (λg=>?_) (λg=>?_)
 ·have g:k.fate=1:=by simpa using g
  apply ws;intros;refine T.fin (by exact T.dp h) ?_
  congr 3
  simp[g]
 ·have g: ¬k.fate=1:=by simpa using g
  apply ws;intros;refine T.fin (by exact T.dp h) ?_
  congr 3
  simp[g]
def Good.jA(hg:Good b)(hf:b.named t.id=none)(many:b.kept.length<96)(hk:KG ⟨asked,{t with ae:=b.ae+1,born:=b.clock},fate⟩):Good (b.jA asked t fate):=by
 have rK:=hg.ae;refine⟨hg.ids,?_,hg.lu,by show(b.kept++[_]).length<=96;simp;omega,hg.MB,?_,?_,?_,hg.clock,by show b.ae+1=_+(((b.kept++[_]).length:Nat):Int);simp;show _=(b.ah.length:Int)+_;omega⟩
 ·show((b.kept++[_]).map _).Nodup;rw[aeu,List.nodup_append];refine⟨hg.names,by simp,?_⟩;intro x hx y hy;simp at hy;subst hy;obtain⟨z,hz,rfl⟩:=aeI.1 hx;have:=afh.1 hf z hz;simpa using this
 ·intro x hx;rcases aeB.1 hx with hx|hx
  ·exact hg.Ml x hx
  ·simp at hx;subst hx;exact hk
 ·show(b.kept++[_]).Pairwise _;rw[List.pairwise_append];refine⟨hg.rising,by simp,λx hx y hy=>?_⟩;simp at hy;subst hy;have:=(hg.stamps x hx).2;show _<b.ae+1;omega
 ·intro x hx;rcases aeB.1 hx with hx|hx
  ·have:=hg.stamps x hx;show _/\_<=b.ae+1;omega
  ·simp at hx;subst hx;show 1<=b.ae+1/\b.ae+1<=b.ae+1;omega
abbrev pq(b:ax)(asked t:Move)(fate:Int):Kept:=⟨asked,{t with ae:=b.ae+1,born:=b.clock},fate⟩
def Ui(hf:b.named t.id=none):c7 (b.jA asked t fate)={c7 b with ae:=b.ae+1,kept:=b.kept++[pq b asked t fate],eg:=(sr (c7 b).eg.1 t.id (some (b.kept.length:Int)),(c7 b).eg.2+1),stamps:=(c7 b).stamps++[(b.ae+1,(b.kept.length:Int))],ends:=(c7 b).ends++(dh (pq b asked t fate)).toList}:=by
 have e9:B8 (b.kept++[pq b asked t fate])=(sr (B8 b.kept).1 t.id (some (b.kept.length:Int)),(B8 b.kept).2+1):=wX (key:=λx:Kept=>x.move.id) (x:=pq b asked t fate) hf;unfold c7 ax.jA;dsimp only;rw[e9,rq,List.filterMap_append,ad1]
 congr 1
def Ju{waits:Bool}[i:Lc (bj p) L (b,hs) f](hf:b.named t.id=none)(many:b.kept.length<96)(hk:KG (pq b asked t fate))(hw:fate=if waits then 1 else 0)(hl:hs.length<900000)
 (h:∀cV,Ext (c7 b) hs (c7 (b.jA asked t fate)) cV 4->T W (f (b.jA asked t fate,cV)) (K (.i 0))):T W L (eE (some ⟨p,0,none⟩) (aj asked) (aj t) waits K):=by
 refine Ht (p:=p) λla lk ti tn vs bx R hg hc l9=>?_;have rK:=hg.ae;have lu:=hg.lu;have kR:(B8 b.kept).1 t.id=none:=by show afA _ _=_;rw[mW (key:=λx:Kept=>x.move.id) hf];rfl
 have JX:vs.reverse.length<900000:=by rw[aeU,hc.len];omega
 unfold eE;apply ws;intros;refine I2 (l:=lk) ?_;apply ws;intros;refine dO (by show decide (((b.kept.length:Nat):Int)>=96)=false;simp;omega) ?_;apply ws;intros;refine zm (t:=tn) (x:=(c7 b).eg) ?_;rw[show(c7 b).eg.1 t.id=none from kR];simp only[aeE,aeQ];apply ws;intros;rename_i r1 r2 r3 r4;have main:T W (Sep.pt r4 (aI ⟨asked,t,fate⟩)::Sep.pt r3 (aj t)::Sep.pt r2 (aj asked)::Sep.pt r1 [.p (some (ad p 0))]::dP p (dD la lk ti tn vs (c7 b))::ox ak 14 la (p,(c7 b).ah)::ox aI 33 lk (p,(c7 b).kept)::lz ti (c7 b).lY::lz tn (c7 b).eg::rC bx::R) (eE.j1 K r1 r4 r3):=by
  unfold eE.j1;apply ws;intros;refine Kw (p:=p) (q:=dD la lk ti tn vs (c7 b)) (by show vs.reverse.length<_;omega) (by show 0<=b.ae/\b.ae<_;omega) λr5=>?_;apply ws;intros;refine Pm (l:=lk) (x:=pq b asked t fate) (show b.kept.length<_ by omega) (by show(vs.reverse++[_]).length<_;simp at JX⊢;omega) λr6 r7=>?_;apply ws;intros;refine Kv (t:=tn) (x:=(c7 b).eg) (show b.kept.length<=1000 by omega) kR ?_;apply ws;intros;refine Kf (p:=p) hg.tU (by show(cM 0 b.kept).length<_;rw[iQ];omega) (λx hx=>by
   obtain⟨k,hk,e⟩:=wx hx
   have:=(hg.stamps k hk).2
   show x.1<b.ae+1
   omega) ?_
  apply ws;intros;refine rG (p:=p) (by show((vs.reverse++[_])++[_]).length<_;simp at JX⊢;omega) rfl rfl ?_;apply ws;intros;refine Oy (k:=pq b asked t fate) hk ?_;apply ws;intros;rename_i r8;have Cw:=Ui (asked:=asked) (fate:=fate) hf;have EF:∀kG,(∀x∈bx,x∈kG)->(r1,[.p (some (ad p 0))])∈kG->(r3,aj t)∈kG->(r4,aI (pq b asked t fate))∈kG->(r5,[.p (some (ad p 0))])∈kG->(r6,[.p (some (ad lk 0))])∈kG->(r7,[.i (b.kept.length:Int)])∈kG->
   gn p la lk kG (Au r1 r3 r4::ra r6 r7::wo r5::vs) ({c7 b with ae:=b.ae+1,kept:=b.kept++[pq b asked t fate]}::{c7 b with ae:=b.ae+1}::c7 b::hs)
    {c7 b with ae:=b.ae+1,kept:=b.kept++[pq b asked t fate],eg:=(sr (c7 b).eg.1 t.id (some (b.kept.length:Int)),(c7 b).eg.2+1),stamps:=(c7 b).stamps++[(b.ae+1,(b.kept.length:Int))]}:=by
   intro kG wa m1 m2 m3 m4 m5 m6;refine⟨?_,?_,?_,hc.mono wa⟩
   ·exact zn.JT (p:=p) (la:=la) (lk:=lk) (c:={c7 b with ae:=b.ae+1,kept:=b.kept++[pq b asked t fate],eg:=(sr (c7 b).eg.1 t.id (some (b.kept.length:Int)),(c7 b).eg.2+1),stamps:=(c7 b).stamps++[(b.ae+1,(b.kept.length:Int))]}) (t:=t) (k:=pq b asked t fate) (l0:=(c7 b).stamps) m1 m2 m3 (show b.kept.length+1<=1000 by omega) (by show(sr _ _ _ _).isSome=true;unfold sr;rw[if_pos rfl];rfl)
     (by have:=(hg.jA hf many hk).tU
         have e:cM 0 (b.jA asked t fate).kept=(c7 b).stamps++[(b.ae+1,(b.kept.length:Int))]:=congrArg C.stamps Cw
         rw[e] at this;exact this)
     (by show(cM 0 b.kept++[_]).length<_;rw[ad0,iQ];simp;omega) rfl (Fw (show(c7 b).eg.1 t.id=none from kR))
   ·have:=zn.RZ (p:=p) (la:=la) (lk:=lk) (c:={c7 b with ae:=b.ae+1,kept:=b.kept++[pq b asked t fate]}) m5 m6 (by show b.kept.length<=(b.kept++[_]).length;simp);have ee:({({c7 b with ae:=b.ae+1,kept:=b.kept++[pq b asked t fate]}:C) with kept:=(b.kept++[pq b asked t fate]).take b.kept.length}:C)={c7 b with ae:=b.ae+1}:=by rw[List.take_left];rfl
    rw[ee] at this;exact this
   ·exact zn.next (c:={c7 b with ae:=b.ae+1}) m4 (by show adU.wrap (b.ae+1-1)=b.ae;rw[ar (by omega)];omega)
  cases hd:dh (pq b asked t fate) with
  |none=>
   simp only[aeE];apply ws;intros;refine cA (cA (cA (cA (cA (cA (cA (cA ?_)))))));rw[hd] at Cw;simp only[Option.toList_none,aei] at Cw;have fin:=λkG c1=>l9 [] (b.jA asked t fate) _ (Au r1 r3 r4::ra r6 r7::wo r5::vs) kG _ (hg.jA hf many hk) c1 (h _ ⟨[{c7 b with ae:=b.ae+1,kept:=b.kept++[pq b asked t fate]},{c7 b with ae:=b.ae+1},c7 b],rfl,rfl,by simp⟩);rw[Cw] at fin;simp only[dD,afs] at fin;exact fin _ (EF _ (λx hx=>by simp[hx]) (by repeat (first|exact aeO.head _|apply aeO.tail)) (by repeat (first|exact aeO.head _|apply aeO.tail)) (by repeat (first|exact aeO.head _|apply aeO.tail)) (by repeat (first|exact aeO.head _|apply aeO.tail)) (by repeat (first|exact aeO.head _|apply aeO.tail)) (by repeat (first|exact aeO.head _|apply aeO.tail)))
  |some x=>
   have ex:IH (pq b asked t fate)=x:=by
    unfold dh at hd;split at hd
    ·cases hd;rfl
    ·cases hd
   simp only[aev];apply ws;intros;simp only[dZ,ad1];rw[ex];refine ET (p:=p) (e':=(c7 b).ends++[x]) (by have:=xm b;show(b.kept.filterMap dh).length<_;omega) (aem.refl _) ?_;apply ws;intros;refine rG (p:=p) (by show(((vs.reverse++[_])++[_])++[_]).length<_;simp at JX⊢;omega) rfl rfl ?_;apply ws;intros;refine cA (cA (cA (cA (cA (cA (cA (cA ?_)))))));rw[hd] at Cw;simp only[Option.toList_some] at Cw;have hsx:=(nE hd).1;have Oa:∀kG,(∀x∈bx,x∈kG)->(r1,[.p (some (ad p 0))])∈kG->(r3,aj t)∈kG->(r4,aI (pq b asked t fate))∈kG->(r5,[.p (some (ad p 0))])∈kG->(r6,[.p (some (ad lk 0))])∈kG->(r7,[.i (b.kept.length:Int)])∈kG->(r8,dI x)∈kG->
                                                       gn p la lk kG (HK r1 r8::Au r1 r3 r4::ra r6 r7::wo r5::vs) ({c7 b with ae:=b.ae+1,kept:=b.kept++[pq b asked t fate],eg:=(sr (c7 b).eg.1 t.id (some (b.kept.length:Int)),(c7 b).eg.2+1),stamps:=(c7 b).stamps++[(b.ae+1,(b.kept.length:Int))]}::{c7 b with ae:=b.ae+1,kept:=b.kept++[pq b asked t fate]}::{c7 b with ae:=b.ae+1}::c7 b::hs)
                                                        (c7 (b.jA asked t fate)):=by
    intro kG wa m1 m2 m3 m4 m5 m6 m7;refine⟨?_,EF kG wa m1 m2 m3 m4 m5 m6⟩;rw[Cw];exact zn.JS (p:=p) (la:=la) (lk:=lk) (c:={c7 b with ae:=b.ae+1,kept:=b.kept++[pq b asked t fate],eg:=(sr (c7 b).eg.1 t.id (some (b.kept.length:Int)),(c7 b).eg.2+1),stamps:=(c7 b).stamps++[(b.ae+1,(b.kept.length:Int))],ends:=(c7 b).ends++[x]}) (e':=(c7 b).ends) m1 m7
     (by have:=xm b;show(b.kept.filterMap dh++[x]).length<_;simp;omega) (ad7 (l₁:=[x])) (λy hy=>by
      obtain⟨k,hk,e⟩:=List.mem_filterMap.1 hy
      have h1:=(nE e).1
      have h2:=(hg.stamps k hk).2
      rw[hsx]
      show y.ae≠b.ae+1
      omega)
   have fin:=λkG c1=>l9 [] (b.jA asked t fate) _ (HK r1 r8::Au r1 r3 r4::ra r6 r7::wo r5::vs) kG _ (hg.jA hf many hk) c1 (h _ ⟨[{c7 b with ae:=b.ae+1,kept:=b.kept++[pq b asked t fate],eg:=(sr (c7 b).eg.1 t.id (some (b.kept.length:Int)),(c7 b).eg.2+1),stamps:=(c7 b).stamps++[(b.ae+1,(b.kept.length:Int))]},{c7 b with ae:=b.ae+1,kept:=b.kept++[pq b asked t fate]},{c7 b with ae:=b.ae+1},c7 b],rfl,rfl,by simp⟩);rw[Cw] at fin Oa;simp only[dD,afs] at fin;exact fin _ (Oa _ (λx hx=>by simp[hx]) (by repeat (first|exact aeO.head _|apply aeO.tail)) (by repeat (first|exact aeO.head _|apply aeO.tail)) (by repeat (first|exact aeO.head _|apply aeO.tail)) (by repeat (first|exact aeO.head _|apply aeO.tail)) (by repeat (first|exact aeO.head _|apply aeO.tail)) (by repeat (first|exact aeO.head _|apply aeO.tail)) (by repeat (first|exact aeO.head _|apply aeO.tail)))
 refine bw (λg=>?_) (λg=>?_)
 ·rw[g] at hw;apply ws;intros;rw[if_pos rfl] at hw;rw[hw] at main;exact main
 ·rw[g,if_neg (by decide)] at hw;rw[hw] at main;exact main
def Oj(hg:Good b){n:Nat}(hn:n<b.kept.length)(h1:b.kept[n].fate=1)(Aa:fate=2\/fate=3\/fate=4):c7 (b.fate b.kept[n].move.id fate)={c7 b with kept:=b.kept.set n {b.kept[n] with fate:=fate},ends:=(b.kept.set n {b.kept[n] with fate:=fate}).filterMap dh}:=by
 have e:(b.fate b.kept[n].move.id fate).kept=b.kept.set n {b.kept[n] with fate:=fate}:=by
  show(b.kept.map λk=>if k.move.id=b.kept[n].move.id/\k.fate=1 then{k with fate:=fate} else k)=_;have:=map_set (key:=λx:Kept=>x.move.id) hg.names hn λk=>if k.fate=1 then{k with fate:=fate} else k
  rw[if_pos h1] at this;rw[<-this];apply ae6;intro k hk;by_cases e1:k.move.id=b.kept[n].move.id<;>by_cases e2:k.fate=1<;>simp[e1,e2]
 have e9:B8 (b.kept.set n {b.kept[n] with fate:=fate})=B8 b.kept:=JW (key:=λx:Kept=>x.move.id) hn rfl;unfold c7;rw[e,e9,D7 (k:={b.kept[n] with fate:=fate}) 0 hn rfl]
 rfl
def Good.Yx(hg:Good b){n:Nat}(hn:n<b.kept.length)(h1:b.kept[n].fate=1)(Aa:fate=2\/fate=3\/fate=4):Good (b.fate b.kept[n].move.id fate):=by
 have e:(b.fate b.kept[n].move.id fate).kept=b.kept.set n {b.kept[n] with fate:=fate}:=congrArg C.kept (Oj hg hn h1 Aa);have em:∀{β:Type}(g:Kept->β),(∀k:Kept,g {k with fate:=fate}=g k)->(b.fate b.kept[n].move.id fate).kept.map g=b.kept.map g:=by
  intro β g hgg;rw[e,List.map_set];refine List.ext_getElem (by simp) λi h1 h2=>?_;rw[List.getElem_set];split
  ·rename_i he;subst he;simp[hgg]
  ·rfl
 have hk:=hg.Ml _ (aej hn);refine⟨hg.ids,by rw[em (λx=>x.move.id) λ_=>rfl];exact hg.names,hg.lu,by rw[e,ae2];exact hg.many,hg.MB,?_,?_,?_,hg.clock,by rw[e,ae2];exact hg.ae⟩
 ·rw[e];intro x hx;rcases aeC hx with hx|hx
  ·exact hg.Ml x hx
  ·subst hx;exact⟨hk.asked,hk.move,hk.IY,hk.JJ,hk.qF,hk.rQ,by show 0<=fate/\fate<=4;omega,hk.timeout,hk.born⟩
 ·have h2:=hg.rising;have:((b.fate b.kept[n].move.id fate).kept.map λx=>x.move.ae).Pairwise (·<·):=by
   rw[em (λx=>x.move.ae) λ_=>rfl];exact List.pairwise_map.2 h2
  exact List.pairwise_map.1 this
 ·rw[e];intro x hx;rcases aeC hx with hx|hx
  ·exact hg.stamps x hx
  ·subst hx;exact hg.stamps b.kept[n] (aej hn)
def TY[i:Lc (bj p) L (b,hs) f](hn:b.named id=some k)(h1:k.fate=1)(Aa:fate=2\/fate=3\/fate=4)(hl:hs.length<900000)
 (h:∀cV,Ext (c7 b) hs (c7 (b.fate id fate)) cV 2->T W (f (b.fate id fate,cV)) (K (.i 0))):T W L (bB (some ⟨p,0,none⟩) (nm id) fate K):=by
 refine Ht (p:=p) λla lk ti tn vs bx R hg hc l9=>?_;have lu:=hg.lu;have many:=hg.many;obtain⟨n,hi⟩:∃n,(b.kept.findIdx? λx=>x.move.id=id)=some n:=by
  cases hi:(b.kept.findIdx? λx=>x.move.id=id) with
  |none=>rw[show b.named id=none from wY (key:=λx:Kept=>x.move.id) hi] at hn;cases hn
  |some n=>exact⟨n,rfl⟩
 obtain⟨UH,hk,Wu⟩:=rU (key:=λx:Kept=>x.move.id) hi;have e2:b.named id=some b.kept[n]:=Wu;rw[hn] at e2;have e3:=aeh.inj e2;subst e3;subst hk;have e1:(B8 b.kept).1 b.kept[n].move.id=some (n:Int):=by show afA _ _=_;rw[hi];rfl
 have Cw:=Oj hg UH h1 Aa;have XZ:=hg.Ml _ (aej UH);have JX:vs.reverse.length<900000:=by rw[aeU,hc.len];omega
 have Gy:dh {b.kept[n] with fate:=fate}=none:=by unfold dh;rw[if_neg];show ¬(fate=1/\_);omega
 unfold bB;apply ws;intros;refine E8 (b:=b) hg.many ?_;rw[hn];simp only[aev,aew];apply ws;intros;rename_i r1 r2 r3;unfold bB.j1;refine dO (by simpa using h1) ?_;unfold bB.j2;refine dO (by simp;omega) ?_;refine dO (by simp;omega) ?_;apply ws;intros;refine Oy (k:=b.kept[n]) XZ ?_;apply ws;intros;rename_i r4;have main:∀(q:Core)(uA:LV)(fo:List C)(c2:C),q=dD la lk ti tn uA c2->c2={c7 b with ends:=q.ends}->q.ends.Perm ((b.kept.set n {b.kept[n] with fate:=fate}).filterMap dh)->uA.length<=vs.length+1->
                                                          (∀kG,(∀x∈bx,x∈kG)->(r1,[.p (some (ad p 0))])∈kG->(r4,dI (IH b.kept[n]))∈kG->gn p la lk kG uA fo {c7 b with ends:=(b.kept.set n {b.kept[n] with fate:=fate}).filterMap dh})->
                                                          Ext (c7 b) hs (c7 (b.fate b.kept[n].move.id fate)) ({c7 b with ends:=(b.kept.set n {b.kept[n] with fate:=fate}).filterMap dh}::fo) 2->
                                                          T W (Sep.pt r4 (dI (IH b.kept[n]))::Sep.pt r3 (aI b.kept[n])::Sep.pt r2 (nm b.kept[n].move.id)::Sep.pt r1 [.p (some (ad p 0))]::dP p q::ox ak 14 la (p,b.ah)::ox aI 33 lk (p,b.kept)::lz ti (Eu b.ah)::lz tn (B8 b.kept)::rC bx::R) (bB.j4 K r1 r2 r3 fate):=by
  rintro q uA fo c2 rfl Mx hpm aau EF aaP;unfold bB.j4;have SU:(dD la lk ti tn uA c2).vs.length<1000000:=by show uA.reverse.length<_;rw[aeU];rw[aeU] at JX;omega
  apply ws;intros;refine zm (t:=tn) (x:=B8 b.kept) ?_;rw[e1];simp only[aev,aew];apply ws;intros;refine VY (l:=lk) (y:=b.kept[n]) (x:={b.kept[n] with fate:=fate}) (adX UH) (by omega) SU λr5 r6 r7=>?_;apply ws;intros;refine cA (cA (cA (cA (cA (cA (cA ?_))))));refine T.IJ (e':=(b.kept.set n {b.kept[n] with fate:=fate}).filterMap dh) hpm ?_;have fin:=λkG(c1:gn p la lk kG (xr r5 r6 r7::uA) ({c7 b with ends:=(b.kept.set n {b.kept[n] with fate:=fate}).filterMap dh}::fo) (c7 (b.fate b.kept[n].move.id fate)))=>l9 [] (b.fate b.kept[n].move.id fate) _ (xr r5 r6 r7::uA) kG _ (hg.Yx UH h1 Aa) c1 (h _ aaP);have Oa:∀kG,(∀x∈bx,x∈kG)->(r1,[.p (some (ad p 0))])∈kG->(r4,dI (IH b.kept[n]))∈kG->(r5,aI b.kept[n])∈kG->(r6,[.p (some (ad lk 0))])∈kG->(r7,[.i (n:Int)])∈kG->
                                                         gn p la lk kG (xr r5 r6 r7::uA) ({c7 b with ends:=(b.kept.set n {b.kept[n] with fate:=fate}).filterMap dh}::fo) (c7 (b.fate b.kept[n].move.id fate)):=by
   intro kG wa m1 m2 m3 m4 m5;refine⟨?_,EF kG wa m1 m2⟩;have:=zn.Qf (p:=p) (la:=la) (lk:=lk) (c:=c7 (b.fate b.kept[n].move.id fate)) m3 m4 m5 (by rw[Cw];simpa using UH);have ee:{c7 (b.fate b.kept[n].move.id fate) with kept:=(c7 (b.fate b.kept[n].move.id fate)).kept.set n b.kept[n]}={c7 b with ends:=(b.kept.set n {b.kept[n] with fate:=fate}).filterMap dh}:=by
    rw[Cw];simp only[afb,List.set_getElem_self]
    rfl
   rw[ee] at this;exact this
  rw[Cw] at fin Oa;simp only[dD,afs] at fin;rw[Mx];exact fin _ (Oa _ (λx hx=>by simp[hx]) (by repeat (first|exact aeO.head _|apply aeO.tail)) (by repeat (first|exact aeO.head _|apply aeO.tail)) (by repeat (first|exact aeO.head _|apply aeO.tail)) (by repeat (first|exact aeO.head _|apply aeO.tail)) (by repeat (first|exact aeO.head _|apply aeO.tail)))
 cases hd:dh b.kept[n] with
 |none=>
  simp only[aeE];apply ws;intros;unfold bB.j3;refine mL ?_;have hes:=CA UH Gy hd;have Ob:({c7 b with ends:=(b.kept.set n {b.kept[n] with fate:=fate}).filterMap dh}:C)=c7 b:=by rw[hes];rfl
  refine main (dD la lk ti tn vs (c7 b)) vs hs (c7 b) rfl rfl (by rw[hes];exact aem.refl _) (by omega) (λkG wa _ _=>by rw[Ob];exact hc.mono wa) (by rw[Ob];exact⟨[c7 b],rfl,rfl,by simp⟩)
 |some x=>
  have ex:IH b.kept[n]=x:=by
   unfold dh at hd;split at hd
   ·cases hd;rfl
   ·cases hd
  obtain⟨Q5,Ey⟩:=hg.On UH Gy hd;simp only[aev];apply ws;intros;simp only[dZ,ad1];have hsx:b.kept[n].move.ae=x.ae:=(nE hd).1.symm;refine G2 (p:=p) (q:=dD la lk ti tn vs (c7 b)) (by have:=xm b;show(b.kept.filterMap dh).length<_;omega) (λy e' hy hpy=>?_) (λEA=>?_)
  ·apply ws;intros;unfold bB.j3;refine vy ?_;apply ws;intros;refine rG (p:=p) (by show vs.reverse.length<_;omega) rfl rfl ?_;apply ws;intros;have hpe:e'.Perm ((b.kept.set n {b.kept[n] with fate:=fate}).filterMap dh):=CI Q5 hpy (by rw[hy,<-ex]) Ey;have:=main ⟨la,lk,ti,tn,vs.reverse++[TD r1 r4],(c7 b).stamps,e',(c7 b).clock,(c7 b).ae⟩ (TD r1 r4::vs) (c7 b::hs) {c7 b with ends:=e'} (by simp[dD]) rfl hpe (by simp) (λkG wa m1 m2=>⟨?_,hc.mono wa⟩) ⟨[{c7 b with ends:=(b.kept.set n {b.kept[n] with fate:=fate}).filterMap dh},c7 b],rfl,rfl,by simp⟩
   ·exact this
   ·rw[ex] at m2;exact zn.end_ (p:=p) (la:=la) (lk:=lk) (c:={c7 b with ends:=(b.kept.set n {b.kept[n] with fate:=fate}).filterMap dh}) (e':=(c7 b).ends) m1 m2 (by have h3:=List.length_filterMap_le dh (b.kept.set n {b.kept[n] with fate:=fate});rw[ae2] at h3;show List.length (List.filterMap _ _)<_;omega) (Q5.symm.trans (ad7 (l₁:=[x])))
  ·refine absurd ?_ (EA x (Q5.mem_iff.1 (by simp)));rw[<-ex]
end
def fY(d c:aO):LV:=ak d++ak c
def xK(d c:aO):∀v∈fY d c,v.oneCell'=true:=lh (eX _) (eX _)
instance{d c:aO}:Ln (fY d c) 28:=⟨rfl⟩
instance{d c:aO}:Gt (fY d c) 12 (.i d.flags):=⟨rfl⟩
instance{d c:aO}:Gt (fY d c) 26 (.i c.flags):=⟨rfl⟩
section
variable {d c e:aO} {i:Int} {x1 x2 x3 x4 x5 x6 x7 x8 x9 zL zJ zH zG CF Hs Hr PX PW Tz Ty Tx Tw Tv Tu Tt Ts Tr Tq:Value}
instance:Sub (fY d c) 0 28 (fY d c):=⟨rfl,λj v h=>by rw[ad1];exact h⟩
instance:Sub (fY d c) 0 14 (ak d):=⟨rfl,λj v h=>by rw[ad1];unfold fY;rw[ael (adZ.1 h).1];exact h⟩
instance:Sub (fY d c) 14 14 (ak c):=⟨rfl,λj v h=>by
 have hl:(ak d).length=14:=rfl
 unfold fY
 rw[aey (by omega),hl,show 14+j-14=j by omega];exact h⟩
instance:Wr (fY d c) 0 (ak e) (fY e c):=⟨rfl,by show 14<=28;decide,eX e⟩
instance:Wr (fY d c) 14 (ak e) (fY d e):=⟨rfl,by show 28<=28;decide,eX e⟩
instance:Wr (fY d c) 12 [.i i] (fY {d with flags:=i} c):=⟨rfl,by show 13<=28;decide,λv h=>by simp at h;subst h;rfl⟩
instance:Wr (fY d c) 26 [.i i] (fY d {c with flags:=i}):=⟨rfl,by show 27<=28;decide,λv h=>by simp at h;subst h;rfl⟩
instance:Wr [x1,x2,x3,x4,x5,x6,x7,x8,x9,zL,zJ,zH,zG,CF,Hs,Hr,PX,PW,Tz,Ty,Tx,Tw,Tv,Tu,Tt,Ts,Tr,Tq] 0 (fY d c) (fY d c):=⟨rfl,ad4 _,xK d c⟩
instance:Wr [x1,x2,x3,x4,x5,x6,x7,x8,x9,zL,zJ,zH,zG,CF,Hs,Hr,PX,PW,Tz,Ty,Tx,Tw,Tv,Tu,Tt,Ts,Tr,Tq] 0 (ak d++(ak c++[])) (fY d c):=⟨rfl,ad4 _,by rw[aei];exact xK d c⟩
instance:Wr [x1,x2,x3,x4,x5,x6,x7,x8,x9,zL,zJ,zH,zG,CF,Hs,Hr,PX,PW,Tz,Ty,Tx,Tw,Tv,Tu,Tt,Ts,Tr,Tq] 0 [.u 0,.u 0,.u 0,.u 0,.u 0,.u 0,.u 0,.u 0,.u 0,.u 0,.i 0,.i 0,.i 0,.i 0,.u 0,.u 0,.u 0,.u 0,.u 0,.u 0,.u 0,.u 0,.u 0,.u 0,.i 0,.i 0,.i 0,.i 0] (fY zA zA):=⟨rfl,ad4 _,xK zA zA⟩
end
def pM(d c:Option aO)(t:Move):Int:=match d with
 |none=>19
 |some d=>match c with
  |none=>20
  |some c=>if d.aG≠c.aG then 21 else if d.aG≠t.aG then 22 else if 8<=d.flags then 30 else if 8<=c.flags then 31 else 0
def Rf{f:Int}(h0:0<=f)(h1:f<16):(bC .i64 .and f 8!=0)=decide (8<=f):=by
 rw[aek];simp only[bne_iff_ne,ne_eq,decide_eq_true_eq];rw[OQ h0 (by omega)];unfold has;omega
section
variable {W:World} {L R:LH} {K:VK} {X:WK} {p:Nat} {b:ax} {hs:List C} {f:ax×List C->LH} {t:Move} {d c:aO} {n:Nat}
def QQ[i:Lc (bj p) L (b,hs) f](h0:∀d c,pM (b.find t.aD) (b.find t.aq) t≠0->T W L (K (.tuple ⟨[.agg ⟨fY d c⟩,.i (pM (b.find t.aD) (b.find t.aq) t)]⟩)))
 (h:∀d c,b.find t.aD=some d->b.find t.aq=some c->pM (b.find t.aD) (b.find t.aq) t=0->T W L (K (.tuple ⟨[.agg ⟨fY d c⟩,.i 0]⟩))):T W L (uN (some ⟨p,0,none⟩) (aj t) K):=by
 refine mn (p:=p) λhg=>?_;unfold uN
 repeat' first|apply ws;intros|apply wb|with_reducible refine sq ?_|fail
 cases hd:b.find t.aD with
 |none=>
  rw[hd] at h0;simp only[aeE,aeQ];have:=h0 zA zA (by show(19:Int)≠0;decide);apply ws;intros;exact T.dp this
 |some d=>
  cases hc:b.find t.aq with
  |none=>
   rw[hd,hc] at h0;simp only[aeE,aeQ,aev,aew];have:=h0 zA zA (by show(20:Int)≠0;decide);apply ws;intros;exact T.dp this
  |some c=>
   rw[hd,hc] at h0 h;have fd:=(hg.MB d (aeW hd)).flags;have fc:=(hg.MB c (aeW hc)).flags;simp only[aev,aew];apply ws;intros;refine bw (λg1=>?_) (λg1=>?_)
   ·have g1:d.aG≠c.aG:=by simpa using g1
    have e:pM (some d) (some c) t=21:=if_pos g1;rw[e] at h0;have:=h0 zA zA (by decide);apply ws;intros;exact T.dp this
   have g1: ¬d.aG≠c.aG:=by simpa using g1
   apply ws;intros;refine bw (λg2=>?_) (λg2=>?_)
   ·have g2:d.aG≠t.aG:=by simpa using g2
    have e:pM (some d) (some c) t=22:=by unfold pM;dsimp only;rw[if_neg g1,if_pos g2]
    rw[e] at h0;have:=h0 zA zA (by decide);apply ws;intros;exact T.dp this
   have g2: ¬d.aG≠t.aG:=by simpa using g2
   apply ws;intros;rw[Rf fd.1 fd.2];refine dX (λg3=>?_) (λg3=>?_)
   ·have e:pM (some d) (some c) t=30:=by unfold pM;dsimp only;rw[if_neg g1,if_neg g2,if_pos (g3)]
    rw[e] at h0;have:=h0 zA zA (by decide);apply ws;intros;exact T.dp this
   apply ws;intros;rw[Rf fc.1 fc.2];refine dX (λg4=>?_) (λg4=>?_)
   ·have e:pM (some d) (some c) t=31:=by unfold pM;dsimp only;rw[if_neg g1,if_neg g2,if_neg g3,if_pos (g4)]
    rw[e] at h0;have:=h0 zA zA (by decide);apply ws;intros;exact T.dp this
   have:=h d c rfl rfl (by unfold pM;dsimp only;rw[if_neg g1,if_neg g2,if_neg g3,if_neg g4]);apply ws;intros;exact T.dp this
def Yl{f:Int}(h0:0<=f)(h1:f<256):(bC .i64 .and f 16!=0)=decide (has f 16):=by
 rw[aek];simp only[bne_iff_ne,ne_eq,decide_eq_true_eq];rw[VE h0 h1,aea]
def Yk{f:Int}(h0:0<=f)(h1:f<256):(bC .i64 .and f 32!=0)=decide (has f 32):=by
 rw[aek];simp only[bne_iff_ne,ne_eq,decide_eq_true_eq];rw[VD h0 h1,aea]
def Tb{f:Int}(h0:0<=f)(h1:f<256):(bC .i64 .and f 64!=0)=decide (has f 64):=by
 rw[aek];simp only[bne_iff_ne,ne_eq,decide_eq_true_eq];rw[OR h0 h1,aea]
def Od{f:Int}(h0:0<=f)(h1:f<256):(bC .i64 .and f 128!=0)=decide (has f 128):=by
 rw[aek];simp only[bne_iff_ne,ne_eq,decide_eq_true_eq];rw[Kj h0 h1,aea]
def aa4{f:Int}(h0:0<=f)(h1:f<256):(bC .i64 .and f 4!=0)=decide (has f 4):=by
 rw[aek];simp only[bne_iff_ne,ne_eq,decide_eq_true_eq];rw[Hc h0 h1,aea]
def Le(G:pE W)(hd:vn d)(hc:vn c)(ht:t.aA<aJ)(hf:0<=t.flags/\t.flags<256)(hz:t.aA=0->has t.flags 16\/has t.flags 32)
 (h:T W L (K (.tuple ⟨[.agg ⟨nm (bF t d c).1⟩,.i (bF t d c).2]⟩))):T W L (dx (fY d c) (aj t) K):=by
 unfold dx;have j3:∀(r1 r2 r3 r4 n1:Nat),n1<aJ->((if has t.flags 32/\(if has t.flags 32 then min n1 (gj c false) else n1)=0 then((0:Nat),(34:Int)) else(if has t.flags 32 then min n1 (gj c false) else n1,0))=bF t d c)->
  T W (Sep.pt r4 (nm n1)::Sep.pt r3 (nm 0)::Sep.pt r2 (aj t)::Sep.pt r1 (fY d c)::L) (dx.j3 K r2 r4 r1 r3):=by
  intro r1 r2 r3 r4 n1 hn1 he;unfold dx.j3;apply ws;intros;rw[Yk hf.1 hf.2];refine dX (λg1=>?_) (λg1=>?_)
  ·rw[if_pos g1] at he
   repeat' first|apply ws;intros|apply wb|with_reducible first|refine Fa G hc ?_|refine Tp ?_|refine qH ?_|fail
   refine dX (λg2=>?_) (λg2=>?_)
   ·rw[if_pos ⟨g1,g2⟩] at he;rw[<-he] at h;rw[g2];apply ws;intros;exact T.dp h
   ·rw[if_neg (λhh=>g2 hh.2)] at he;rw[<-he] at h;apply ws;intros;exact T.dp h
  ·rw[if_neg (λhh=>g1 hh.1),if_neg g1] at he;rw[<-he] at h;apply ws;intros;exact T.dp h
 have j2:∀(r1 r2 r3 r4:Nat),T W (Sep.pt r4 (nm (if t.aA=0 then aJ-1 else t.aA))::Sep.pt r3 (nm 0)::Sep.pt r2 (aj t)::Sep.pt r1 (fY d c)::L) (dx.j2 K r2 r4 r1 r3):=by
  intro r1 r2 r3 r4;have hn0:(if t.aA=0 then aJ-1 else t.aA)<aJ:=by unfold aJ at *;split<;>omega
  unfold dx.j2;apply ws;intros;rw[Yl hf.1 hf.2];refine dX (λg1=>?_) (λg1=>?_)
  ·repeat' first|apply ws;intros|apply wb|with_reducible first|refine Fa G hd ?_|refine Tp ?_|refine qH ?_|fail
   refine dX (λg2=>?_) (λg2=>?_)
   ·have he:bF t d c=(0,33):=by unfold bF;simp only[g1,g2,if_true,true_and]
    rw[he] at h;rw[g2];apply ws;intros;exact T.dp h
   ·refine j3 _ _ _ _ _ (by have:=Bv (p:=true) hd;omega) ?_;unfold bF;simp only[g1,g2,if_true,true_and,if_false]
  ·refine j3 _ _ _ _ _ hn0 ?_;unfold bF;simp only[g1,if_false,false_and]
 have adR:(has t.flags 16\/has t.flags 32)->t.aA=0->(if t.aA=0 then aJ-1 else t.aA)=aJ-1:=λ_ h=>if_pos h
 repeat' first|apply ws;intros|apply wb|with_reducible refine B5 hf ?_|fail
 rename_i r1 r2 r3 r4;refine dX (λg1=>?_) (λg1=>?_)
 ·repeat' first|apply ws;intros|apply wb|with_reducible refine qH ?_|fail
  unfold dx.j1;refine dX (λg2=>?_) (λg2=>?_)
  ·refine Jf ⟨ud _,G.QN⟩ ?_;apply ws;intros;have:=j2 r1 r2 r3 r4;rw[if_pos g2] at this;exact this
  ·have:=j2 r1 r2 r3 r4;rw[if_neg g2] at this;exact this
 ·unfold dx.j1;refine mL ?_;have:=j2 r1 r2 r3 r4;rw[if_neg (λhh=>g1 (hz hh))] at this;exact this
end
structure adk(t:Move):Prop where
 flags:0<=t.flags/\t.flags<=255
 id0:t.id≠0
 idM:t.id≠aJ-1
 tog:fx t.flags
 fresh:t.ae=0/\t.born=0
 timeout:0<=t.timeout/\t.timeout<=1073741824
 waits:0<t.timeout->has t.flags 2
 ends:gw t.flags->t.pending≠0/\(0<=t.aG/\t.aG<4294967296)/\(0<=t.code/\t.code<65536)
 aT: ¬gw t.flags->t.aD≠t.aq/\t.pending=0/\(t.aA=0->has t.flags 16\/has t.flags 32)/\(1<=t.aG/\t.aG<4294967296)/\(1<=t.code/\t.code<65536)
def yq{t:Move}(h:kF t=0):adk t:=by
 unfold kF at h;by_cases h1:t.flags<0\/255<t.flags
 ·rw[if_pos h1] at h;exact absurd h (by decide)
 rw[if_neg h1] at h;by_cases h2:t.id=0
 ·rw[if_pos h2] at h;exact absurd h (by decide)
 rw[if_neg h2] at h;by_cases h3:t.id=aJ-1
 ·rw[if_pos h3] at h;exact absurd h (by decide)
 rw[if_neg h3] at h;by_cases h4: ¬fx t.flags
 ·rw[if_pos h4] at h;exact absurd h (by decide)
 rw[if_neg h4] at h;by_cases h5:t.ae≠0\/t.born≠0
 ·rw[if_pos h5] at h;exact absurd h (by decide)
 rw[if_neg h5] at h;by_cases h6:t.timeout<0\/1073741824<t.timeout\/0<t.timeout/\ ¬has t.flags 2
 ·rw[if_pos h6] at h;exact absurd h (by decide)
 rw[if_neg h6] at h;have hw:0<t.timeout->has t.flags 2:=λh0=>aea.1 λhh=>h6 (.inr (.inr ⟨h0,hh⟩));by_cases he:gw t.flags
 ·rw[if_pos he] at h;by_cases g1:t.pending=0
  ·rw[if_pos g1] at h;exact absurd h (by decide)
  rw[if_neg g1] at h;by_cases g2:t.aG<0\/4294967296<=t.aG
  ·rw[if_pos g2] at h;exact absurd h (by decide)
  rw[if_neg g2] at h;by_cases g3:t.code<0\/65536<=t.code
  ·rw[if_pos g3] at h;exact absurd h (by decide)
  exact⟨by omega,h2,h3,aea.1 h4,by omega,by omega,hw,λ_=>⟨g1,by omega,by omega⟩,λhh=>absurd he hh⟩
 ·rw[if_neg he] at h;by_cases g1:t.aD=0
  ·rw[if_pos g1] at h;exact absurd h (by decide)
  rw[if_neg g1] at h;by_cases g2:t.aq=0
  ·rw[if_pos g2] at h;exact absurd h (by decide)
  rw[if_neg g2] at h;by_cases g3:t.aD=t.aq
  ·rw[if_pos g3] at h;exact absurd h (by decide)
  rw[if_neg g3] at h;by_cases g4:t.pending≠0
  ·rw[if_pos g4] at h;exact absurd h (by decide)
  rw[if_neg g4] at h;by_cases g5:t.aA=0/\ ¬has t.flags 16/\ ¬has t.flags 32
  ·rw[if_pos g5] at h;exact absurd h (by decide)
  rw[if_neg g5] at h;by_cases g6:t.aG<1\/4294967296<=t.aG
  ·rw[if_pos g6] at h;exact absurd h (by decide)
  rw[if_neg g6] at h;by_cases g7:t.code<1\/65536<=t.code
  ·rw[if_pos g7] at h;exact absurd h (by decide)
  refine⟨by omega,h2,h3,aea.1 h4,by omega,by omega,hw,λhh=>absurd hh he,λ_=>⟨g3,by omega,λh0=>?_,by omega,by omega⟩⟩;by_cases q:has t.flags 16
  ·exact .inl q
  ·by_cases q2:has t.flags 32
   ·exact .inr q2
   ·exact absurd ⟨h0,q,q2⟩ g5
section
variable {b:ax} {t:Move} {d c:aO} {n:Nat} {q:Bool}
def r9(hg:Good b){id:Nat}(hd:b.find id=some d):AG d/\d.id=id:=⟨hg.MB d (aeW hd),by simpa using List.find?_some hd⟩
def JK{s:Bool}(hd:AG d)(hm:(more d s n q).2=0):AG (more d s n q).1/\(more d s n q).1.id=d.id/\(more d s n q).1.ae=d.ae:=by
 obtain⟨⟨i1,i2,i3,i4,i5,i6,i7,i8,i9⟩,i10,i11,i12⟩:=hd;unfold more at hm⊢;cases s with
 |false=>
  simp only[aeo,if_false] at hm⊢;by_cases h1:aJ<=d.cp+d.cq+n
  ·rw[if_pos h1] at hm;exact absurd hm (by show ¬(32:Int)=0;decide)
  by_cases h2:has d.flags 4/\gj d false<n
  ·rw[if_neg h1,if_pos h2] at hm;exact absurd hm (by show ¬(34:Int)=0;decide)
  rw[if_neg h1,if_neg h2];cases q with
  |true=>exact⟨⟨⟨i1,i2,i3,by show d.cp+n<aJ;omega,i5,i6,i7,i8,i9⟩,i10,i11,i12⟩,rfl,rfl⟩
  |false=>exact⟨⟨⟨i1,i2,i3,i4,by show d.cq+n<aJ;omega,i6,i7,i8,i9⟩,i10,i11,i12⟩,rfl,rfl⟩
 |true=>
  simp only[if_true] at hm⊢;by_cases h1:aJ<=d.dp+d.dq+n
  ·rw[if_pos h1] at hm;exact absurd hm (by show ¬(32:Int)=0;decide)
  by_cases h2:has d.flags 2/\gj d true<n
  ·rw[if_neg h1,if_pos h2] at hm;exact absurd hm (by show ¬(33:Int)=0;decide)
  rw[if_neg h1,if_neg h2];cases q with
  |true=>exact⟨⟨⟨i1,by show d.dp+n<aJ;omega,i3,i4,i5,i6,i7,i8,i9⟩,i10,i11,i12⟩,rfl,rfl⟩
  |false=>exact⟨⟨⟨i1,i2,by show d.dq+n<aJ;omega,i4,i5,i6,i7,i8,i9⟩,i10,i11,i12⟩,rfl,rfl⟩
def G3(hd:AG d){yes:Prop}[Decidable yes]:AG (close d yes)/\(close d yes).id=d.id/\(close d yes).ae=d.ae:=by
 obtain⟨⟨i1,i2,i3,i4,i5,i6,i7,i8,i9⟩,i10,i11,i12⟩:=hd;unfold close;split
 ·have hf:0<=d.flags%8+8/\d.flags%8+8<16:=by omega
  exact⟨⟨⟨i1,i2,i3,i4,i5,i6,i7,by show rl (d.flags%8+8);unfold rl;omega,i9⟩,⟨i10.1,i10.2.1,by show 0<=d.flags%8+8/\d.flags%8+8<=65535;omega⟩,hf,i12⟩,rfl,rfl⟩
 ·exact⟨⟨⟨i1,i2,i3,i4,i5,i6,i7,i8,i9⟩,i10,i11,i12⟩,rfl,rfl⟩
def CJ{a x:aO}{id:Nat}(hx:b.find id=some x)(gU:a.id≠id):(b.aF a).find id=some x:=by
 unfold ax.find at *;show(b.ah.map λx=>if x.id=a.id then{a with ae:=x.ae} else x).find? _=_;rw[List.find?_map];have:((λy:aO=>decide (y.id=id))∘λx=>if x.id=a.id then{a with ae:=x.ae} else x)=λy:aO=>decide (y.id=id):=by
  funext y
  simp only[Function.comp];by_cases e:y.id=a.id<;>simp[e]
 rw[this,hx];have hxi:x.id=id:=by simpa using List.find?_some hx
 simp only[aeK];rw[if_neg (by rw[hxi];exact λh=>gU h.symm)]
def ri(hg:Good b){id:Nat}{k:Kept}(hk:b.named id=some k):KG k/\k.move.id=id:=⟨hg.Ml k (aeW hk),by simpa using List.find?_some hk⟩
end
section
variable {W:World} {L R:LH} {K:VK} {X:WK} {p:Nat} {b:ax} {hs:List C} {f:ax×List C->LH} {t:Move} {d c:aO} {n:Nat}
def Ld(h1:kF t=0)(h2: ¬gw t.flags)(h3:b.named t.id=none)(h4:b.find t.aD=some d)(h5:b.find t.aq=some c)(h6:pM (some d) (some c) t=0):
 gN t (b.named t.id) (b.find t.aD) (b.find t.aq) b.kept.length=(if 96<=b.kept.length then(35,0)
  else if(bF t d c).2≠0 then((bF t d c).2,0)
  else if(more d true (bF t d c).1 (decide (has t.flags 2))).2≠0 then((more d true (bF t d c).1 (decide (has t.flags 2))).2,0)
  else if(more c false (bF t d c).1 (decide (has t.flags 2))).2≠0 then((more c false (bF t d c).1 (decide (has t.flags 2))).2,0)
  else(0,(bF t d c).1)):=by
 unfold pM at h6;dsimp only at h6;unfold gN;rw[if_neg (by simpa using h1),if_neg h2,h3,h4,h5];dsimp only;by_cases g1:d.aG≠c.aG
 ·rw[if_pos g1] at h6;cases h6
 by_cases g2:d.aG≠t.aG
 ·rw[if_neg g1,if_pos g2] at h6;cases h6
 by_cases g3:8<=d.flags
 ·rw[if_neg g1,if_neg g2,if_pos g3] at h6;cases h6
 by_cases g4:8<=c.flags
 ·rw[if_neg g1,if_neg g2,if_neg g3,if_pos g4] at h6;cases h6
 rw[if_neg g1,if_neg g2,if_neg g3,if_neg g4]
def SI(G:pE W)(ht:u3 t)(NY:j0 t)(hl:hs.length<800000)[i:Lc (bj p) L (b,hs) f]
 (h:∀cV,Ext (c7 b) hs (c7 (b.move t).2) cV 6->T W (f ((b.move t).2,cV)) (K (.i (b.move t).1))):T W L (l6 (some ⟨p,0,none⟩) (aj t) K):=by
 have hL:f (b,hs)=L:=i.same;refine mn (p:=p) λhg=>?_;have bad:∀r:Int,r≠0->(gN t (b.named t.id) (b.find t.aD) (b.find t.aq) b.kept.length).1=r->T W L (K (.i r)):=by
  intro r hr he;have e:b.move t=(r,b):=by unfold ax.move;dsimp only;rw[he,if_pos hr]
  rw[e] at h;have:=h hs (Ext.refl _ _ _);rw[hL] at this;exact this
 unfold l6
 repeat' first|apply ws;intros|apply wb|with_reducible refine FG G ht ?_|fail
 refine bw (λg1=>?_) (λg1=>?_)
 ·have g1:kF t≠0:=by simpa using g1
  have:=bad (kF t) g1 (by unfold gN;rw[if_pos g1]);exact T.dp this
 have g1:kF t=0:=by simpa using g1
 have ck:=yq g1;have hf:0<=t.flags/\t.flags<256:=by have:=ck.flags;omega
 repeat' first|apply ws;intros|apply wb|with_reducible refine Fc hf ?_|fail
 refine dX (λg2=>?_) (λg2=>?_)
 ·have:=bad 6 (by decide) (by unfold gN;rw[if_neg (by simpa using g1),if_pos g2]);exact T.dp this
 repeat' first|apply ws;intros|apply wb|with_reducible refine E7 ?_|fail
 cases hn:b.named t.id with
 |some k=>
  obtain⟨hk,_⟩:=ri hg hn;simp only[aev,aew]
  repeat' first|apply ws;intros|apply wb|with_reducible refine FH hf hk.qF ?_|fail
  have:=bad (qG t k.asked) (oR _ _) (by unfold gN;rw[if_neg (by simpa using g1),if_neg g2,hn]);exact T.dp this
 |none=>
 simp only[aeE,aeQ];have key:∀(d c:Option aO),b.find t.aD=d->b.find t.aq=c->pM d c t≠0->(gN t (b.named t.id) (b.find t.aD) (b.find t.aq) b.kept.length).1=pM d c t:=by
  intro d c hd hc gU;rw[hd,hc,hn];unfold gN;rw[if_neg (by simpa using g1),if_neg g2];dsimp only;cases d with
  |none=>rfl
  |some d=>
   cases c with
   |none=>rfl
   |some c=>
    unfold pM at gU⊢;dsimp only at gU⊢;by_cases g1:d.aG≠c.aG
    ·rw[if_pos g1,if_pos g1]
    by_cases g2:d.aG≠t.aG
    ·rw[if_neg g1,if_pos g2,if_neg g1,if_pos g2]
    by_cases g3:8<=d.flags
    ·rw[if_neg g1,if_neg g2,if_pos g3,if_neg g1,if_neg g2,if_pos g3]
    by_cases g4:8<=c.flags
    ·rw[if_neg g1,if_neg g2,if_neg g3,if_pos g4,if_neg g1,if_neg g2,if_neg g3,if_pos g4]
    rw[if_neg g1,if_neg g2,if_neg g3,if_neg g4] at gU;exact absurd rfl gU
 apply ws;intros;refine QQ (λd c gU=>?_) (λd c hd hc he=>?_)
 ·apply ws;intros;refine jN (by simpa using gU) ?_;have:=bad _ gU (key _ _ rfl rfl gU);exact T.dp this
 apply ws;intros;obtain⟨gd,Fg⟩:=r9 hg hd;obtain⟨gc,EE⟩:=r9 hg hc;rw[hd,hc] at he;have J8:=Ld (b:=b) g1 g2 hn hd hc he;refine dO (by simp) ?_
 repeat' first|apply ws;intros|apply wb|with_reducible refine Pa ?_|fail
 by_cases g3:96<=b.kept.length
 ·rw[decide_eq_false (by omega)];apply ws;intros;have:=bad 35 (by decide) (by rw[J8,if_pos g3]);exact T.dp this
 rw[decide_eq_true (by omega)];rw[if_neg g3] at J8;obtain⟨gU,adm,Ri,adH,S7⟩:=ck.aT g2
 repeat' first|apply ws;intros|apply wb|with_reducible refine Le G gd.ok gc.ok ht.aA hf Ri ?_|fail
 refine bw (λg4=>?_) (λg4=>?_)
 ·have g4:(bF t d c).2≠0:=by simpa using g4
  have:=bad _ g4 (by rw[J8,if_pos g4]);exact T.dp this
 have g4: ¬(bF t d c).2≠0:=by simpa using g4
 rw[if_neg g4] at J8;have Ds:(bF t d c).1<aJ:=by
  have h1:=Bv (p:=true) gd.ok;have h2:=Bv (p:=false) gc.ok;have h3:=ht.aA;unfold bF aJ at *;dsimp only
  repeat' split
  all_goals first|(show(0:Nat)<_;omega)|(show min _ _<_;omega)|(show _<_;split<;>omega)|omega
 generalize hN:(bF t d c).1=N at *
 repeat' first|apply ws;intros|apply wb|with_reducible first|refine ql hf ?_|refine Sd G gd.ok Ds ⟨gd.flags.1,by have:=gd.flags.2;omega⟩ ?_|fail
 refine bw (λg5=>?_) (λg5=>?_)
 ·have g5:(more d true N (decide (has t.flags 2))).2≠0:=by simpa using g5
  have:=bad _ g5 (by rw[J8,if_pos g5]);exact T.dp this
 have g5: ¬(more d true N (decide (has t.flags 2))).2≠0:=by simpa using g5
 rw[if_neg g5] at J8
 repeat' first|apply ws;intros|apply wb|with_reducible first|refine ql hf ?_|refine Pr G gc.ok Ds ⟨gc.flags.1,by have:=gc.flags.2;omega⟩ ?_|fail
 refine bw (λg6=>?_) (λg6=>?_)
 ·have g6:(more c false N (decide (has t.flags 2))).2≠0:=by simpa using g6
  have:=bad _ g6 (by rw[J8,if_pos g6]);exact T.dp this
 have g6: ¬(more c false N (decide (has t.flags 2))).2≠0:=by simpa using g6
 rw[if_neg g6] at J8;obtain⟨md,mdi,mds⟩:=JK (q:=decide (has t.flags 2)) gd (aea.1 g5);obtain⟨mc,mci,mcs⟩:=JK (q:=decide (has t.flags 2)) gc (aea.1 g6);have e:b.move t=(0,b.yR t N):=by unfold ax.move;dsimp only;rw[J8];rfl
 rw[e] at h;have em:b.yR t N=((b.aF (close (more d true N (decide (has t.flags 2))).1 (has t.flags 64))).aF (close (more c false N (decide (has t.flags 2))).1 (has t.flags 128))).jA t {t with aA:=N} (waits t):=by unfold ax.yR;rw[hd,hc]
 rw[em] at h;have last:∀(D C:aO)(r1 r2 r3 r4:Nat),AG D->AG C->D.id=d.id->C.id=c.id->D.ae=d.ae->C.ae=c.ae->
    (∀cV,Ext (c7 b) hs (c7 (((b.aF D).aF C).jA t {t with aA:=N} (waits t))) cV 6->T W (f (((b.aF D).aF C).jA t {t with aA:=N} (waits t),cV)) (K (.i 0)))->
    T W (Sep.pt r4 (nm N)::Sep.pt r3 (fY D C)::Sep.pt r2 (aI zK)::Sep.pt r1 (aj t)::L) (l6.j2 K r3 (some ⟨p,0,none⟩) r1 r4):=by
  intro D C r1 r2 r3 r4 gD gC Ys hCi hDs hCs hh;have Lx:b.find D.id=some d:=by rw[Ys,Fg];exact hd
  have eD:({D with ae:=d.ae}:aO)=D:=by rw[<-hDs]
  have eC:({C with ae:=c.ae}:aO)=C:=by rw[<-hCs]
  have S5:(b.aF D).find C.id=some c:=CJ (by rw[hCi,EE];exact hc) (by rw[Ys,hCi,Fg,EE];exact gU);have rK:=hg.ae;have lu:=hg.lu;have many:=hg.many;unfold l6.j2;apply ws;intros;refine E1 (p:=p) Lx (by rw[eD];exact gD) (by omega) λwa x1=>?_;have l1:=x1.len;have i1:=i.next (b.aF D,wa);apply ws;intros;refine E1 (p:=p) S5 (by rw[eC];exact gC) (by omega) λfo x2=>?_;have l2:=x2.len;have i2:=i.next ((b.aF D).aF C,fo)
  repeat' first|apply ws;intros|apply wb|with_reducible refine ql hf ?_|fail
  have XZ:KG (pq ((b.aF D).aF C) t {t with aA:=N} (waits t)):=by
   have cl:=hg.clock;refine⟨ht,⟨ht.id,ht.aD,ht.aq,Ds,ht.pending,ht.timeout,ht.aG,ht.code,ht.flags,?_,?_⟩,NY,NY,hf,hf,?_,ck.timeout,cl⟩
   ·show rl (b.ae+1);unfold rl;omega
   ·show rl b.clock;unfold rl;omega
   ·show 0<=waits t/\waits t<=4;unfold Md.waits;split<;>decide
  have Hy:((b.aF D).aF C).named ({t with aA:=N}:Move).id=none:=hn;refine Ju (p:=p) (waits:=decide (has t.flags 2)) Hy (show b.kept.length<96 by omega) XZ (by unfold Md.waits;by_cases q:has t.flags 2<;>simp[q]) (by omega) λqU x3=>?_;apply ws;intros;have:=hh qU (((x1.trans x2).trans x3).mono (by omega));exact T.dp this
 obtain⟨cd,cdi,cds⟩:=G3 (yes:=has t.flags 64) md;obtain⟨cc,cci,ccs⟩:=G3 (yes:=has t.flags 128) mc;have SK:∀(D:aO)(r1 r2 r3 r4:Nat),D=close (more d true N (decide (has t.flags 2))).1 (has t.flags 64)->T W (Sep.pt r4 (nm N)::Sep.pt r3 (fY D (more c false N (decide (has t.flags 2))).1)::Sep.pt r2 (aI zK)::Sep.pt r1 (aj t)::L) (l6.j1 K r1 r3 (some ⟨p,0,none⟩) r4):=by
  intro D r1 r2 r3 r4 hD;unfold l6.j1;apply ws;intros;rw[Od hf.1 hf.2];have fin:=last D (close (more c false N (decide (has t.flags 2))).1 (has t.flags 128)) r1 r2 r3 r4 (by rw[hD];exact cd) cc (by rw[hD,cdi,mdi]) (by rw[cci,mci]) (by rw[hD,cds,mds]) (by rw[ccs,mcs]) (by rw[hD];exact h);refine dX (λq=>?_) (λq=>?_)
  ·apply ws;intros;rw[Zt mc.flags.1 mc.flags.2];unfold close at fin;rw[if_pos q] at fin;exact fin
  ·unfold close at fin;rw[if_neg q] at fin;exact fin
 apply ws;intros;rw[Tb hf.1 hf.2];refine dX (λq=>?_) (λq=>?_)
 ·apply ws;intros;rw[Zt md.flags.1 md.flags.2];exact SK _ _ _ _ _ (by unfold close;rw[if_pos q])
 ·exact SK _ _ _ _ _ (by unfold close;rw[if_neg q])
end
section
variable {m t:Move} {x1 x2 x3 x4 x5 x6 x7 x8 x9 zL zJ zH zG CF Hs Hr:Value} {n:Nat} {i:Int}
instance:Wr (aj m) 2 (nm n) (aj {m with aD:=n}):=⟨rfl,by show 4<=16;decide,kC n⟩
instance:Wr (aj m) 4 (nm n) (aj {m with aq:=n}):=⟨rfl,by show 6<=16;decide,kC n⟩
end
section
variable {W:World} {L R:LH} {K:VK} {X:WK} {p:Nat} {b:ax} {hs:List C} {f:ax×List C->LH} {t q:Move} {d c:aO} {n:Nat} {fate:Int} {k:Kept}
def QL(h:T W L (K (.bool (decide (¬c8 t q))))):T W L (dB (aj t) (aj q) K):=by
 unfold dB;have j3:∀(r1 r2:Nat)(x:Bool),((x=true/\(t.code=0\/t.code=q.code))↔ ¬c8 t q)->T W (Sep.pt r2 (aj q)::Sep.pt r1 (aj t)::L) (dB.j3 K r1 r2 x):=by
  intro r1 r2 x hx;unfold dB.j3;refine bw (λg=>?_) (λg=>?_)
  ·repeat' first|apply ws;intros|apply wb|with_reducible refine bw (λh1=>?_) (λh1=>?_)|fail
   ·have h1:t.code=0:=by simpa using h1
    rw[decide_eq_true (hx.1 ⟨g,.inl h1⟩)] at h;exact T.dp h
   ·have h1: ¬t.code=0:=by simpa using h1
    refine T.fin (T.dp h) ?_
    congr 1
    rw[aek];simp only[beq_iff_eq,decide_eq_true_eq];rw[<-hx]
    constructor
    ·exact λe=>⟨g,.inr e⟩
    ·rintro⟨_,e|e⟩
     ·exact absurd e h1
     ·exact e
  ·rw[decide_eq_false (λhh=>by rw[(hx.2 hh).1] at g;cases g)] at h;exact T.dp h
 have j2:∀(r1 r2:Nat)(x:Bool),((x=true/\(t.aG=0\/t.aG=q.aG)/\(t.code=0\/t.code=q.code))↔ ¬c8 t q)->T W (Sep.pt r2 (aj q)::Sep.pt r1 (aj t)::L) (dB.j2 K r1 r2 x):=by
  intro r1 r2 x hx;unfold dB.j2;refine bw (λg=>?_) (λg=>?_)
  ·repeat' first|apply ws;intros|apply wb|with_reducible refine bw (λh1=>?_) (λh1=>?_)|fail
   ·have h1:t.aG=0:=by simpa using h1
    exact j3 _ _ _ (by rw[<-hx];simp[g,h1])
   ·have h1: ¬t.aG=0:=by simpa using h1
    exact j3 _ _ _ (by rw[<-hx];simp[g,h1])
  ·exact j3 _ _ _ (by rw[<-hx];simp[g])
 have j1:∀(r1 r2:Nat)(x:Bool),((x=true/\(t.aq=0\/t.aq=q.aq)/\(t.aG=0\/t.aG=q.aG)/\(t.code=0\/t.code=q.code))↔ ¬c8 t q)->T W (Sep.pt r2 (aj q)::Sep.pt r1 (aj t)::L) (dB.j1 K r1 r2 x):=by
  intro r1 r2 x hx;unfold dB.j1;refine bw (λg=>?_) (λg=>?_)
  ·repeat' first|apply ws;intros|apply wb|with_reducible first|refine qH ?_|refine bw (λh1=>?_) (λh1=>?_)|fail
   ·have h1:=of_decide_eq_true h1;exact j2 _ _ _ (by rw[<-hx];simp[g,h1])
   ·have h1:=of_decide_eq_false h1;exact j2 _ _ _ (by rw[<-hx];simp[g,h1])
  ·exact j2 _ _ _ (by rw[<-hx];simp[g])
 have EA:((t.aD=0\/t.aD=q.aD)/\(t.aq=0\/t.aq=q.aq)/\(t.aG=0\/t.aG=q.aG)/\(t.code=0\/t.code=q.code))↔ ¬c8 t q:=by unfold c8;omega
 repeat' first|apply ws;intros|apply wb|with_reducible first|refine qH ?_|refine bw (λh1=>?_) (λh1=>?_)|fail
 ·have h1:=of_decide_eq_true h1;exact j1 _ _ _ (by rw[<-EA];simp[h1])
 ·have h1:=of_decide_eq_false h1;exact j1 _ _ _ (by rw[<-EA];simp[h1])
def kj(K1:Option Kept)(t:Move):Int:=match K1 with
 |none=>23
 |some k=>if ¬has k.move.flags 2 then 24 else if c8 t k.move then 25 else if 1<k.fate then 25+k.fate else 0
def Rc(G:pE W)[i:Lc (bj p) L (b,hs) f](h0:∀m,kj (b.named t.pending) t≠0->T W L (K (.tuple ⟨[.agg ⟨aj m⟩,.i (kj (b.named t.pending) t)]⟩)))
 (h:∀k,b.named t.pending=some k->kj (b.named t.pending) t=0->T W L (K (.tuple ⟨[.agg ⟨aj k.move⟩,.i 0]⟩))):T W L (uQ (some ⟨p,0,none⟩) (aj t) K):=by
 refine mn (p:=p) λhg=>?_;unfold uQ
 repeat' first|apply ws;intros|apply wb|with_reducible refine E7 ?_|fail
 cases hn:b.named t.pending with
 |none=>
  rw[hn] at h0;simp only[aeE,aeQ];have:=h0 zT (by show(23:Int)≠0;decide);apply ws;intros;exact T.dp this
 |some k=>
  rw[hn] at h0 h;obtain⟨kg,_⟩:=ri hg hn;simp only[aev,aew]
  repeat' first|apply ws;intros|apply wb|with_reducible refine ql kg.rQ ?_|fail
  by_cases g1:has k.move.flags 2
  ·rw[decide_eq_true g1]
   repeat' first|apply ws;intros|apply wb|with_reducible refine QL ?_|fail
   by_cases g2:c8 t k.move
   ·have e:kj (some k) t=25:=by unfold kj;dsimp only;rw[if_neg (λh=>h g1),if_pos g2]
    rw[e] at h0;have:=h0 zT (by decide);rw[decide_eq_false (λh=>h g2)];apply ws;intros;exact T.dp this
   ·rw[decide_eq_true g2];obtain⟨f1,f2⟩:=kg.fate;have e:kj (some k) t=if 1<k.fate then 25+k.fate else 0:=by unfold kj;dsimp only;rw[if_neg (λh=>h g1),if_neg g2]
    obtain⟨fn,Z4⟩:∃fn:Nat,k.fate=fn:=⟨k.fate.toNat,by omega⟩;have z':fn<5:=by omega
    have Pz:([.i 0,.i 0,.i 27,.i 28,.i 29]:LV)[fn]?=some (.i (if 1<k.fate then 25+k.fate else 0)):=by
     rw[Z4]
     match fn,z' with
     |0,_=>rfl
     |1,_=>rfl
     |2,_=>rfl
     |3,_=>rfl
     |4,_=>rfl
    apply ws;intros;refine cL ⟨f1,by omega⟩ ?_;have hnt:k.fate.toNat* 1=fn:=by omega
    rw[hnt];have y4:=G.told fn _ Pz;refine λw fo=>⟨_,by rw[fo.old (Ah y4)];exact y4,?_⟩;refine T.at ?_ fo;apply ws;intros;refine λw fo=>⟨λj v hj=>?_,?_⟩
    ·match j,hj with
     |0,hj=>
      simp at hj;subst hj;have Mx:=y4;rw[dZ,ad1] at Mx;rw[dZ,aeT,fo.old (Ah Mx)];exact Mx
    refine T.at ?_ fo;apply ws;intros;rw[<-e];by_cases g3:kj (some k) t=0
    ·rw[g3];have:=h k rfl g3;exact T.dp this
    ·have:=h0 k.move g3;exact T.dp this
  ·have e:kj (some k) t=24:=by unfold kj;dsimp only;rw[if_pos g1]
   rw[e] at h0;have:=h0 zT (by decide);rw[decide_eq_false g1];apply ws;intros;exact T.dp this
def Yj{f:Int}(h0:0<=f)(h1:f<256):(bC .i64 .and f 8!=0)=decide (has f 8):=by
 rw[aek];simp only[bne_iff_ne,ne_eq,decide_eq_true_eq];rw[OQ h0 h1,aea]
def LB(hf:0<=t.flags/\t.flags<256)(U8:has t.flags 8↔ ¬has t.flags 4)(h0:iS t q->T W L (K (.tuple ⟨[.agg ⟨nm 0⟩,.i 26]⟩)))
 (h: ¬iS t q->T W L (K (.tuple ⟨[.agg ⟨nm (bJ t q)⟩,.i 0]⟩))):T W L (kQ (aj t) (aj q) K):=by
 unfold kQ
 repeat' first|apply ws;intros|apply wb|with_reducible refine qH ?_|fail
 refine dX (λg1=>?_) (λg1=>?_)
 ·have e:bJ t q=q.aA:=if_pos g1;have hb: ¬iS t q:=by unfold iS;rw[e];omega
  have:=h hb;rw[e] at this;apply ws;intros;exact T.dp this
 have e:bJ t q=t.aA:=if_neg g1;unfold kQ.j1;apply ws;intros;rw[Yj hf.1 hf.2];refine dX (λg2=>?_) (λg2=>?_)
 ·apply ws;intros;by_cases g3:t.aA=q.aA
  ·have hb: ¬iS t q:=by
    unfold iS;rw[e];have:=U8.1 g2;rintro(⟨h4,_⟩|⟨_,h4⟩)
    ·exact this h4
    ·exact h4 g3
   have:=h hb;rw[e] at this;rw[decide_eq_true g3]
   repeat' first|apply ws;intros|apply wb|with_reducible refine yA ?_|fail
   refine dO (by simp;omega) ?_;apply ws;intros;exact T.dp this
  ·have hb:iS t q:=.inr ⟨U8.1 g2,by rw[e];exact g3⟩;have:=h0 hb;rw[decide_eq_false g3];apply ws;intros;exact T.dp this
 ·have g4:has t.flags 4:=aea.1 λhh=>g2 (U8.2 hh)
  repeat' first|apply ws;intros|apply wb|with_reducible refine yA ?_|fail
  refine dX (λg3=>?_) (λg3=>?_)
  ·have:=h0 (.inl ⟨g4,by rw[e];exact g3⟩);apply ws;intros;exact T.dp this
  ·have:=h (by
    rintro(⟨_,h4⟩|⟨h4,_⟩)
    ·rw[e] at h4;exact g3 h4
    ·exact h4 g4)
   rw[e] at this;apply ws;intros;exact T.dp this
def U3{f:Int}(h0:0<=f)(h1:f<256):(bC .i64 .and f 64==0)=decide (¬has f 64):=by
 rw[aek];simp only[beq_iff_eq,decide_eq_true_eq];rw[OR h0 h1]
def Rg{f:Int}(h0:0<=f)(h1:f<256):(bC .i64 .and f 128==0)=decide (¬has f 128):=by
 rw[aek];simp only[beq_iff_eq,decide_eq_true_eq];rw[Kj h0 h1]
def LA[i:Lc (bj p) L (b,hs) f](hq:0<=q.flags/\q.flags<256)(hd:b.find q.aD=some d)(hc:b.find q.aq=some c)
 (h:T W L (K (.i (if 8<=d.flags/\ ¬has q.flags 64 then 30 else if 8<=c.flags/\ ¬has q.flags 128 then 31 else 0)))):T W L (jU (some ⟨p,0,none⟩) (aj q) K):=by
 refine mn (p:=p) λhg=>?_;have fd:=(hg.MB d (aeW hd)).flags;have fc:=(hg.MB c (aeW hc)).flags;unfold jU
 repeat' first|apply ws;intros|apply wb|with_reducible refine sq ?_|fail
 rw[hd,hc];simp only[aev,aew];rename_i r1 r2 r3;have j1:∀x:Bool,(x=true↔(8<=d.flags/\ ¬has q.flags 64))->T W (Sep.pt r3 (ak c)::Sep.pt r2 (ak d)::Sep.pt r1 (aj q)::L) (jU.j1 K r3 r1 x):=by
  intro x hx;unfold jU.j1;refine bw (λg=>?_) (λg=>?_)
  ·rw[if_pos (hx.1 g)] at h;exact T.dp h
  rw[if_neg (λhh=>by rw[hx.2 hh] at g;cases g)] at h;apply ws;intros;rw[Rf fc.1 fc.2];refine dX (λg1=>?_) (λg1=>?_)
  ·apply ws;intros;rw[Rg hq.1 hq.2];refine dX (λg2=>?_) (λg2=>?_)
   ·rw[if_pos ⟨g1,g2⟩] at h;exact T.dp h
   ·rw[if_neg (λhh=>g2 hh.2)] at h;exact T.dp h
  ·rw[if_neg (λhh=>g1 hh.1)] at h;exact T.dp h
 rw[Rf fd.1 fd.2];refine dX (λg1=>?_) (λg1=>?_)
 ·apply ws;intros;rw[U3 hq.1 hq.2];exact j1 _ (by simp[g1])
 ·exact j1 _ (by simp[g1])
end
section
variable {b:ax} {t q:Move} {d c:aO} {n:Nat} {fate:Int}
def Qo(hd:AG d)(hn:fate=2->d.dq+n<aJ):AG (vF d q n fate):=by
 obtain⟨⟨i1,i2,i3,i4,i5,i6,i7,i8,i9⟩,i10,i11,i12⟩:=hd;have hf:0<=d.flags%8/\d.flags%8<16:=by omega
 unfold vF open_;split
 ·exact⟨⟨i1,by show d.dp-q.aA<aJ;omega,by show d.dq+n<aJ;exact hn (by assumption),i4,i5,i6,i7,i8,i9⟩,i10,i11,i12⟩
 ·split
  ·exact⟨⟨i1,by show d.dp-q.aA<aJ;omega,i3,i4,i5,i6,i7,by show rl (d.flags%8);unfold rl;omega,i9⟩,⟨i10.1,i10.2.1,by show 0<=d.flags%8/\d.flags%8<=65535;omega⟩,hf,i12⟩
  ·exact⟨⟨i1,by show d.dp-q.aA<aJ;omega,i3,i4,i5,i6,i7,i8,i9⟩,i10,i11,i12⟩
def Qp(hd:AG d)(hn:fate=2->d.cq+n<aJ):AG (wF d q n fate):=by
 obtain⟨⟨i1,i2,i3,i4,i5,i6,i7,i8,i9⟩,i10,i11,i12⟩:=hd;have hf:0<=d.flags%8/\d.flags%8<16:=by omega
 unfold wF open_;split
 ·exact⟨⟨i1,i2,i3,by show d.cp-q.aA<aJ;omega,by show d.cq+n<aJ;exact hn (by assumption),i6,i7,i8,i9⟩,i10,i11,i12⟩
 ·split
  ·exact⟨⟨i1,i2,i3,by show d.cp-q.aA<aJ;omega,i5,i6,i7,by show rl (d.flags%8);unfold rl;omega,i9⟩,⟨i10.1,i10.2.1,by show 0<=d.flags%8/\d.flags%8<=65535;omega⟩,hf,i12⟩
  ·exact⟨⟨i1,i2,i3,by show d.cp-q.aA<aJ;omega,i5,i6,i7,i8,i9⟩,i10,i11,i12⟩
end
section
variable {W:World} {L R:LH} {K:VK} {X:WK} {p:Nat} {b:ax} {hs:List C} {f:ax×List C->LH} {t q:Move} {d c:aO} {n:Nat} {fate:Int} {k:Kept}
def CU[i:Lc (bj p) L (b,hs) f](hk:b.named q.id=some k)(Q':k.fate=1)(hq:0<=q.flags/\q.flags<256)(Uz:q.aA<aJ)(Ds:n<aJ)(hd:b.find q.aD=some d)(hc:b.find q.aq=some c)(gU:q.aD≠q.aq)(hf:fate=2\/fate=3\/fate=4)
 (Gy:fate=2->d.dq+n<aJ)(qV:fate=2->c.cq+n<aJ)(hl:hs.length<800000)
 (h:∀cV,Ext (c7 b) hs (c7 (b.release q n fate)) cV 4->T W (f (b.release q n fate,cV)) (K (.tuple ⟨[]⟩))):T W L (cb (some ⟨p,0,none⟩) (aj q) (nm n) fate K):=by
 refine mn (p:=p) λhg=>?_;obtain⟨gd,Fg⟩:=r9 hg hd;obtain⟨gc,EE⟩:=r9 hg hc;have er:b.release q n fate=((b.aF (vF d q n fate)).aF (wF c q n fate)).fate q.id fate:=by unfold ax.release;rw[hd,hc]
 rw[er] at h;have last:∀(D E:aO)(r1 r2 r3 r4:Nat),D=vF d q n fate->E=wF c q n fate->T W (Sep.pt r4 (ak E)::Sep.pt r3 (ak D)::Sep.pt r2 (nm n)::Sep.pt r1 (aj q)::L) (cb.j1 K r3 (some ⟨p,0,none⟩) r4 r1 fate):=by
  intro D E r1 r2 r3 r4 hD hE;have Ys:D.id=d.id:=by rw[hD];exact(Ec _ _ _ _).1
  have hEi:E.id=c.id:=by rw[hE];exact(Ed _ _ _ _).1
  have gD:AG {D with ae:=d.ae}:=by
   have:=Qo (q:=q) (n:=n) (fate:=fate) gd Gy;rw[<-hD] at this;have es:D.ae=d.ae:=by rw[hD];exact(Ec _ _ _ _).2
   have e2:({D with ae:=d.ae}:aO)=D:=by rw[<-es]
   rw[e2];exact this
  have gE:AG {E with ae:=c.ae}:=by
   have:=Qp (q:=q) (n:=n) (fate:=fate) gc qV;rw[<-hE] at this;have es:E.ae=c.ae:=by rw[hE];exact(Ed _ _ _ _).2
   have e2:({E with ae:=c.ae}:aO)=E:=by rw[<-es]
   rw[e2];exact this
  rw[<-hD,<-hE] at h;unfold cb.j1;apply ws;intros;refine E1 (p:=p) (by rw[Ys,Fg];exact hd) gD (by omega) λwa x1=>?_;have l1:=x1.len;have i1:=i.next (b.aF D,wa);apply ws;intros;refine E1 (p:=p) (old:=c) (CJ (by rw[hEi,EE];exact hc) (by rw[Ys,hEi,Fg,EE];exact gU)) gE (by omega) λfo x2=>?_;have l2:=x2.len;have i2:=i.next ((b.aF D).aF E,fo);apply ws;intros;refine TY (p:=p) (k:=k) (show((b.aF D).aF E).named q.id=some k from hk) Q' hf (by omega) λqU x3=>?_;apply ws;intros;have:=h qU (((x1.trans x2).trans x3).mono (by omega));exact T.dp this
 have W2:∀x y:Nat,(if x<y then 0 else x-y)=x-y:=λx y=>by split<;>omega
 unfold cb
 repeat' first|apply ws;intros|apply wb|with_reducible refine sq ?_|fail
 rw[hd,hc];simp only[aev,aew]
 repeat' first|apply ws;intros|apply wb|with_reducible first|refine O5 gd.ok.dp Uz ?_|refine O5 gc.ok.cp Uz ?_|fail
 rw[W2,W2];refine bw (λg1=>?_) (λg1=>?_)
 ·have g1:fate=2:=by simpa using g1
  repeat' first|apply ws;intros|apply wb|with_reducible first|refine zo gd.ok.dq Ds ?_|refine zo gc.ok.cq Ds ?_|fail
  rw[if_pos (Gy g1),if_pos (qV g1)];refine last _ _ _ _ _ _ ?_ ?_
  ·unfold vF;rw[if_pos g1]
  ·unfold wF;rw[if_pos g1]
 ·have g1: ¬fate=2:=by simpa using g1
  have j2:∀(D:aO)(r1 r2 r3 r4:Nat),D=vF d q n fate->T W (Sep.pt r4 (ak {c with cp:=c.cp-q.aA})::Sep.pt r3 (ak D)::Sep.pt r2 (nm n)::Sep.pt r1 (aj q)::L) (cb.j2 K r1 r4 r3 (some ⟨p,0,none⟩) fate):=by
   intro D r1 r2 r3 r4 hD;unfold cb.j2;apply ws;intros;rw[Od hq.1 hq.2];refine dX (λg2=>?_) (λg2=>?_)
   ·apply ws;intros;rw[Th gc.flags.1 gc.flags.2];refine last _ _ _ _ _ _ hD ?_;unfold wF open_;rw[if_neg g1,if_pos g2]
   ·refine last _ _ _ _ _ _ hD ?_;unfold wF open_;rw[if_neg g1,if_neg g2]
  apply ws;intros;rw[Tb hq.1 hq.2];refine dX (λg2=>?_) (λg2=>?_)
  ·apply ws;intros;rw[Th gd.flags.1 gd.flags.2];refine j2 _ _ _ _ _ ?_;unfold vF open_;rw[if_neg g1,if_pos g2]
  ·refine j2 _ _ _ _ _ ?_;unfold vF open_;rw[if_neg g1,if_neg g2]
structure Hk(b:ax)(k:Kept):Prop where
 aD:∃d,b.find k.move.aD=some d/\k.move.aA<=d.dp/\d.dp+d.dq<aJ
 aq:∃c,b.find k.move.aq=some c/\k.move.aA<=c.cp/\c.cp+c.cq<aJ
 ne:k.move.aD≠k.move.aq
def IA{id:Nat}(hn:b.named id=none){id':Nat}:(b.fate id' fate).named id=none:=by
 unfold ax.named at *;rw[afh] at *;intro x hx;obtain⟨y,hy,rfl⟩:=aeI.1 hx;have:=hn y hy;split<;>exact this
def Ci{id:Nat}(hn:b.named id=none):(b.release q n fate).named id=none:=by
 unfold ax.release;split
 ·exact IA hn
 ·exact hn
def UU(G:pE W)(ht:u3 t)(NY:j0 t)(pJ:kF t=0)(nD:gw t.flags)(hw:∀k∈b.kept,has k.move.flags 2->k.fate<=1->k.fate=1/\Hk b k)(hl:hs.length<800000)[i:Lc (bj p) L (b,hs) f]
 (h:∀cV,Ext (c7 b) hs (c7 (b.me t).2) cV 8->T W (f ((b.me t).2,cV)) (K (.i (b.me t).1))):T W L (nT (some ⟨p,0,none⟩) (aj t) K):=by
 have hL:f (b,hs)=L:=i.same;refine mn (p:=p) λhg=>?_;have ck:=yq pJ;have hf:0<=t.flags/\t.flags<256:=by have:=ck.flags;omega
 have bad:∀r:Int,r≠0->(b.me t)=(r,b)->T W L (K (.i r)):=by
  intro r hr e;rw[e] at h;have:=h hs (Ext.refl _ _ _);rw[hL] at this;exact this
 unfold nT
 repeat' first|apply ws;intros|apply wb|with_reducible refine E7 ?_|fail
 cases hn:b.named t.id with
 |some k=>
  obtain⟨hk,_⟩:=ri hg hn;simp only[aev,aew]
  repeat' first|apply ws;intros|apply wb|with_reducible refine FH hf hk.qF ?_|fail
  have:=bad (qG t k.asked) (oR _ _) (by
   unfold ax.me
   have e1:∀(K1:Option Kept)(x y:Bool)(m:Nat),kT t (some k) K1 x y m=qG t k.asked:=by
    intro K1 x y m;unfold kT;rw[if_neg (by simpa using pJ),if_neg (by simpa using nD)]
   rw[hn]
   cases b.named t.pending with
   |none=>dsimp only;rw[e1]
   |some k2=>dsimp only;rw[e1,if_pos (oR _ _)])
  exact T.dp this
 |none=>
 simp only[aeE,aeQ];apply ws;intros;have J8:∀(k2:Kept),b.named t.pending=some k2->∀(x y:Bool)(m:Nat),kT t none (some k2) x y m=(if kj (some k2) t≠0 then kj (some k2) t else if iS t k2.move then 26 else if has t.flags 4/\x=true then 30 else if has t.flags 4/\y=true then 31 else if 96<=m then 35 else 0):=by
  intro k2 _ x y m;unfold kT;rw[if_neg (by simpa using pJ),if_neg (by simpa using nD)];dsimp only;by_cases g1: ¬has k2.move.flags 2
  ·have hv:kj (some k2) t=24:=by unfold kj;dsimp only;rw[if_pos g1]
   rw[hv,if_pos g1,if_pos (by decide)]
  by_cases g2:c8 t k2.move
  ·have hv:kj (some k2) t=25:=by unfold kj;dsimp only;rw[if_neg g1,if_pos g2]
   rw[hv,if_neg g1,if_pos g2,if_pos (by decide)]
  by_cases g3:1<k2.fate
  ·have hv:kj (some k2) t=25+k2.fate:=by unfold kj;dsimp only;rw[if_neg g1,if_neg g2,if_pos g3]
   rw[hv,if_neg g1,if_neg g2,if_pos g3,if_pos (by omega)]
  ·have hv:kj (some k2) t=0:=by unfold kj;dsimp only;rw[if_neg g1,if_neg g2,if_neg g3]
   rw[hv,if_neg g1,if_neg g2,if_neg g3,if_neg (show ¬((0:Int)≠0) by decide)]
 refine Rc G (λm gU=>?_) (λk2 rz he=>?_)
 ·apply ws;intros;refine jN (by simpa using gU) ?_;have:=bad _ gU (by
   unfold ax.me
   rw[hn]
   cases hp:b.named t.pending with
   |none=>
    dsimp only
    have:kT t none none false false b.kept.length=23:=by unfold kT;rw[if_neg (by simpa using pJ),if_neg (by simpa using nD)]
    rw[this];rfl
   |some k2=>
    rw[hp] at gU
    dsimp only
    rw[J8 k2 hp,if_pos gU,if_pos gU])
  exact T.dp this
 apply ws;intros;rw[rz] at he;obtain⟨kg,aaK⟩:=ri hg rz;have J4:k2∈b.kept:=aeW rz;have h2p:has k2.move.flags 2/\k2.fate<=1:=by
  unfold kj at he;dsimp only at he;by_cases g1: ¬has k2.move.flags 2
  ·rw[if_pos g1] at he;cases he
  rw[if_neg g1] at he;by_cases g2:c8 t k2.move
  ·rw[if_pos g2] at he;cases he
  rw[if_neg g2] at he;by_cases g3:1<k2.fate
  ·rw[if_pos g3] at he;omega
  exact⟨aea.1 g1,by omega⟩
 obtain⟨Rd,⟨⟨d,hd,hda,hds⟩,⟨c,hc,hca,PK⟩,gU⟩⟩:=hw k2 J4 h2p.1 h2p.2;have e0:∀r:Int,r=(if iS t k2.move then 26 else if has t.flags 4/\b.je k2.move.aD (has k2.move.flags 64)=true then 30 else if has t.flags 4/\b.je k2.move.aq (has k2.move.flags 128)=true then 31 else if 96<=b.kept.length then 35 else 0)->
  b.me t=(if r≠0 then(r,b) else(0,(b.release k2.move (bJ t k2.move) (bU t)).jA t (jV t k2.move) 0)):=by
  intro r hr;subst hr;unfold ax.me;rw[rz,hn];dsimp only;rw[J8 k2 rz,he,if_neg (show ¬((0:Int)≠0) by decide)]
 have U8:has t.flags 8↔ ¬has t.flags 4:=(G4 pJ nD).2.1;refine dO (by simp) ?_;apply ws;intros;refine LB hf U8 (λhb=>?_) (λhb=>?_)
 ·apply ws;intros;have:=bad 26 (by decide) (by rw[e0 26 (by rw[if_pos hb])];rfl);exact T.dp this
 have hN:bJ t k2.move<aJ:=by unfold bJ;split;exact kg.move.aA;exact ht.aA
 have Yq:has t.flags 4->bJ t k2.move<=k2.move.aA:=λh4=>by
  unfold iS at hb;by_cases hx:k2.move.aA<bJ t k2.move
  ·exact absurd (.inl ⟨h4,hx⟩) hb
  ·omega
 have rK:=hg.ae;have lu:=hg.lu;have many:=hg.many;have cl:=hg.clock;have fin:∀(r1 r2 r3 r4:Nat)(fate:Int),fate=bU t->(if 96<=b.kept.length then b.me t=(35,b) else b.me t=(0,(b.release k2.move (bJ t k2.move) (bU t)).jA t (jV t k2.move) 0))->
  T W (Sep.pt r4 (nm (bJ t k2.move))::Sep.pt r3 (aj k2.move)::Sep.pt r2 (aI zK)::Sep.pt r1 (aj t)::L) (nT.j1 K (some ⟨p,0,none⟩) r3 r4 r1 fate):=by
  intro r1 r2 r3 r4 fate Z5 Ct;unfold nT.j1
  repeat' first|apply ws;intros|apply wb|with_reducible refine Pa ?_|fail
  by_cases g3:96<=b.kept.length
  ·rw[if_pos g3] at Ct;rw[decide_eq_false (by omega)];apply ws;intros;have:=bad 35 (by decide) Ct;exact T.dp this
  rw[if_neg g3] at Ct;rw[decide_eq_true (by omega)];rw[Ct,<-Z5] at h;apply ws;intros;have Wv:fate=2\/fate=3\/fate=4:=by rw[Z5];unfold bU;split<;>simp
  have h24:fate=2->has t.flags 4:=λe=>by
   rw[Z5] at e;unfold bU at e;split at e
   ·assumption
   ·cases e
  refine CU (p:=p) (k:=k2) (d:=d) (c:=c) (by rw[aaK];exact rz) Rd kg.rQ kg.move.aA hN hd hc gU Wv (λe=>by have:=Yq (h24 e);omega) (λe=>by have:=Yq (h24 e);omega) hl λwa x1=>?_;have l1:=x1.len;have i1:=i.next (b.release k2.move (bJ t k2.move) fate,wa);apply ws;intros;have hrk:(b.release k2.move (bJ t k2.move) fate).kept.length=b.kept.length:=by unfold ax.release;rw[hd,hc];show(List.map _ _).length=_;rw[aen];rfl
  have hrs:(b.release k2.move (bJ t k2.move) fate).ae=b.ae:=by unfold ax.release;rw[hd,hc];rfl
  have hrc:(b.release k2.move (bJ t k2.move) fate).clock=b.clock:=by unfold ax.release;rw[hd,hc];rfl
  have XZ:KG (pq (b.release k2.move (bJ t k2.move) fate) t (jV t k2.move) 0):=by
   have kt:=kg.JJ;have adC:=NY;refine⟨ht,⟨ht.id,kg.move.aD,kg.move.aq,hN,ht.pending,ht.timeout,kg.move.aG,kg.move.code,ht.flags,?_,?_⟩,NY,⟨NY.1,kt.2.1,kt.2.2.1,NY.2.2.2⟩,hf,hf,by show(0:Int)<=0/\(0:Int)<=4;decide,ck.timeout,?_⟩
   ·show rl (ax.ae _+1);rw[hrs];unfold rl;omega
   ·show rl (ax.clock _);rw[hrc];unfold rl;omega
   ·show 0<=ax.clock _/\ax.clock _<=_;rw[hrc];exact cl
  refine Ju (p:=p) (t:=jV t k2.move) (waits:=false) (fate:=0) (Ci hn) (by rw[hrk];omega) XZ rfl (by omega) λfo x2=>?_;apply ws;intros;have:=h fo ((x1.trans x2).mono (by omega));exact T.dp this
 apply ws;intros;refine dO (by decide) ?_;apply ws;intros;rw[aa4 hf.1 hf.2];refine dX (λg4=>?_) (λg4=>?_)
 ·apply ws;intros;refine LA (p:=p) kg.rQ hd hc ?_;have c1:(b.je k2.move.aD (has k2.move.flags 64)=true)↔(8<=d.flags/\ ¬has k2.move.flags 64):=by unfold ax.je;rw[hd];simp
  have c2:(b.je k2.move.aq (has k2.move.flags 128)=true)↔(8<=c.flags/\ ¬has k2.move.flags 128):=by unfold ax.je;rw[hc];simp
  by_cases g5:8<=d.flags/\ ¬has k2.move.flags 64
  ·rw[if_pos g5];apply ws;intros;refine jN (by decide) ?_;have:=bad 30 (by decide) (by rw[e0 30 (by rw[if_neg hb,if_pos ⟨g4,c1.2 g5⟩])];rfl);exact T.dp this
  rw[if_neg g5];by_cases g6:8<=c.flags/\ ¬has k2.move.flags 128
  ·rw[if_pos g6];apply ws;intros;refine jN (by decide) ?_;have:=bad 31 (by decide) (by rw[e0 31 (by rw[if_neg hb,if_neg (λhh=>g5 (c1.1 hh.2)),if_pos ⟨g4,c2.2 g6⟩])];rfl);exact T.dp this
  rw[if_neg g6];apply ws;intros;refine dO (by decide) ?_;refine fin _ _ _ _ _ (by unfold bU;rw[if_pos g4]) ?_;by_cases g7:96<=b.kept.length
  ·rw[if_pos g7,e0 35 (by rw[if_neg hb,if_neg (λhh=>g5 (c1.1 hh.2)),if_neg (λhh=>g6 (c2.1 hh.2)),if_pos g7])];rfl
  ·rw[if_neg g7,e0 0 (by rw[if_neg hb,if_neg (λhh=>g5 (c1.1 hh.2)),if_neg (λhh=>g6 (c2.1 hh.2)),if_neg g7])];rfl
 ·refine fin _ _ _ _ _ (by unfold bU;rw[if_neg g4]) ?_;by_cases g7:96<=b.kept.length
  ·rw[if_pos g7,e0 35 (by rw[if_neg hb,if_neg (λhh=>g4 hh.1),if_neg (λhh=>g4 hh.1),if_pos g7])];rfl
  ·rw[if_neg g7,e0 0 (by rw[if_neg hb,if_neg (λhh=>g4 hh.1),if_neg (λhh=>g4 hh.1),if_neg g7])];rfl
def Yr(G:pE W)(ht:u3 t)(NY:j0 t)(hw:∀k∈b.kept,has k.move.flags 2->k.fate<=1->k.fate=1/\Hk b k)(hl:hs.length<800000)[i:Lc (bj p) L (b,hs) f]
 (h:∀cV,Ext (c7 b) hs (c7 (b.ov t).2) cV 8->T W (f ((b.ov t).2,cV)) (K (.i (b.ov t).1))):T W L (kr (some ⟨p,0,none⟩) (aj t) K):=by
 unfold kr
 repeat' first|apply ws;intros|apply wb|with_reducible refine FG G ht ?_|fail
 unfold kr.j1;refine bw (λg1=>?_) (λg1=>?_)
 ·have g1:kF t≠0:=by simpa using g1
  have e:b.ov t=b.move t:=by unfold ax.ov;rw[if_neg (λhh=>g1 hh.1)]
  rw[e] at h;apply ws;intros;refine SI G ht NY hl λcV hx=>?_;apply ws;intros;have:=h cV (hx.mono (by omega));exact T.dp this
 have g1:kF t=0:=by simpa using g1
 have ck:=yq g1
 repeat' first|apply ws;intros|apply wb|with_reducible refine Fc (show 0<=t.flags/\t.flags<256 by have:=ck.flags;omega) ?_|fail
 by_cases g2:gw t.flags
 ·have e:b.ov t=b.me t:=by unfold ax.ov;rw[if_pos ⟨g1,g2⟩]
  rw[e] at h;rw[decide_eq_true g2];apply ws;intros;refine UU G ht NY g1 g2 hw hl λcV hx=>?_;apply ws;intros;have:=h cV hx;exact T.dp this
 ·have e:b.ov t=b.move t:=by unfold ax.ov;rw[if_neg (λhh=>g2 hh.2)]
  rw[e] at h;rw[decide_eq_false g2];apply ws;intros;refine SI G ht NY hl λcV hx=>?_;apply ws;intros;have:=h cV (hx.mono (by omega));exact T.dp this
end
section
variable {W:World} {L R:LH} {K:VK} {X:WK} {p:Nat} {b:ax} {hs:List C} {f:ax×List C->LH}
def zI:Item:=⟨0,0,0⟩
instance{x1 x2 x3 x4:Value}:Wr [x1,x2,x3,x4] 0 [.i 0,.i 0,.u 0,.u 0] (dI zI):=⟨rfl,ad4 _,mE zI⟩
instance{x:Item}:Sub (dI x) 2 2 (nm x.id):=⟨rfl,λj v h=>by
 match j with
 |0=>exact h
 |1=>exact h
 |j+2=>simp[nm] at h⟩
def Nv{r o:Nat}{cs:LV}{bb:OA}{c:Nat}{h:List Item}(hv:cs[o]?=some (.l bb h.length c))(hl:h.length<10000)
 (hx:∀x,h[0]?=some x->T W (Sep.pt r cs::own bb h.length c 4 (h.flatMap dI)::R) (K (.tuple ⟨[.agg ⟨dI x⟩,.bool true]⟩)))
 (h0:h=[]->T W (Sep.pt r cs::own bb h.length c 4 (h.flatMap dI)::R) (K (.tuple ⟨[.agg ⟨dI zI⟩,.bool false]⟩))):
 T W (Sep.pt r cs::own bb h.length c 4 (h.flatMap dI)::R) (jR (some ⟨r,o,none⟩) K):=by
 unfold jR pF;refine qL λr1=>?_;refine tQ ?_;refine zp ?_;refine jM hv ?_;refine tN ?_;refine lA ?_;refine bw (λg=>?_) (λg=>?_)
 ·have g:h=[]:=by
   have:((h.length:Nat):Int)=0:=by simpa using g
   exact List.length_eq_zero_iff.1 (by omega)
  apply ws;intros;have:=h0 g;exact T.dp this
 ·have g:0<h.length:=by
   have: ¬((h.length:Nat):Int)=0:=by simpa using g
   omega
  refine zp ?_;refine jM hv ?_;refine tN ?_;have gx:=adX g;refine bR ⟨by omega,by omega⟩ λrb hb=>?_;subst hb;refine dA (o:=0) fe gx ?_;apply ws;intros;have:=hx _ gx;exact T.dp this
def LW{q:Core}{f:Core->LH}[i:Lc (dP p) L q f](hl:q.ends.length<10000)
 (h1:∀x,x∈q.ends->(∀y∈q.ends,¬bf y x)->T W L (K (.tuple ⟨[.agg ⟨dI x⟩,.bool true]⟩)))(h0:q.ends=[]->T W L (K (.tuple ⟨[.agg ⟨dI zI⟩,.bool false]⟩))):T W L (jR (some ⟨p,6,none⟩) K):=by
 have hL:f q=L:=i.same;rw[<-hL] at h0 h1;refine mK (p:=p) λb1 c1 b2 c2 b3 c3 hp R g1 g2 hc=>?_;refine T.H0 ?_;refine Nv rfl (by rw[g2.length_eq];exact hl) (λx hx=>?_) (λhn=>?_)
 ·refine T.AN ?_;exact hc [] q b1 c1 b2 c2 b3 c3 hp _ g1 g2 (h1 x (g2.mem_iff.1 (aep hx)) λy hy=>g1.first hx y (g2.mem_iff.2 hy))
 ·refine T.AN ?_;exact hc [] q b1 c1 b2 c2 b3 c3 hp _ g1 g2 (h0 (by subst hn;exact(List.nil_perm.1 g2)))
def tick(b:ax)(now:Int):ax:={b with clock:=if b.clock<now/\now<=1099511627776 then now else b.clock}
def Qi[i:Lc (bj p) L (b,hs) f]{now:Int}(hl:hs.length<900000)
 (h:∀cV,Ext (c7 b) hs (c7 (Go.Up.tick b now)) cV 1->T W (f (Go.Up.tick b now,cV)) (K (.tuple ⟨[]⟩))):T W L (cn (some ⟨p,0,none⟩) now K):=by
 refine Ht (p:=p) λla lk ti tn vs bx R hg hc l9=>?_;have JX:vs.reverse.length<900000:=by rw[aeU,hc.len];omega
 have Yd:=hg.clock;have same: ¬(b.clock<now/\now<=1099511627776)->Go.Up.tick b now=b:=λhn=>by unfold Go.Up.tick;rw[if_neg hn]
 unfold cn;apply ws;intros;rename_i r1;refine dX (λg=>?_) (λg=>?_)
 ·have g:now<=b.clock:=g;have e:=same (by omega);rw[e] at h;have fin:=l9 [] b hs vs bx _ hg hc (h hs (Ext.refl _ _ _));unfold cn.j1;apply ws;intros;exact T.dp fin
 have g: ¬now<=b.clock:=g;unfold cn.j1;refine dX (λg2=>?_) (λg2=>?_)
 ·have g2:now>1099511627776:=g2;have e:=same (by omega);rw[e] at h;have fin:=l9 [] b hs vs bx _ hg hc (h hs (Ext.refl _ _ _));exact T.dp fin
 have g2: ¬now>1099511627776:=g2;have e:Go.Up.tick b now={b with clock:=now}:=by unfold Go.Up.tick;rw[if_pos ⟨by omega,by omega⟩]
 rw[e] at h;apply ws;intros;rename_i r2;refine HN (p:=p) ?_;apply ws;intros;refine rG (p:=p) (by show vs.reverse.length<_;omega) rfl rfl ?_;apply ws;intros;refine cA (cA ?_);have fU:Good {b with clock:=now}:={hg with clock:=by show 0<=now/\now<=_;omega};have fin:=λkG c1=>l9 [] {b with clock:=now} _ (Sn r2 r1::vs) kG _ fU c1 (h _ ⟨[c7 b],rfl,rfl,by simp⟩);simp only[dD,afs] at fin;refine fin _ ⟨?_,hc.mono λx hx=>by simp[hx]⟩;exact zn.time (c:=c7 {b with clock:=now}) (by repeat (first|exact aeO.head _|apply aeO.tail)) (by repeat (first|exact aeO.head _|apply aeO.tail))
def Np[i:Lc (bj p) L (b,hs) f]
 (h1:∀k,k∈b.kept->jy b.clock k->T W L (K (.tuple ⟨[.agg ⟨aI k⟩,.bool true]⟩)))
 (h0:(∀k∈b.kept,¬jy b.clock k)->T W L (K (.tuple ⟨[.agg ⟨aI zK⟩,.bool false]⟩))):T W L (cH (some ⟨p,0,none⟩) K):=by
 have hL:f (b,hs)=L:=i.same;refine Ht (p:=p) λla lk ti tn vs bx R hg hc l9=>?_;have many:=hg.many;unfold cH;apply ws;intros;refine LW (p:=p) (by have:=xm b;show(b.kept.filterMap dh).length<_;omega) (λx hx u1=>?_) (λhn=>?_)
 ·obtain⟨k,hk,hkd⟩:=List.mem_filterMap.1 hx;obtain⟨e1,e2,e3,e4,e5⟩:=nE hkd;have hn:b.named x.id=some k:=by
   obtain⟨n,hn,rfl⟩:=List.getElem_of_mem hk;have:=uL (key:=λx:Kept=>x.move.id) hg.names hn;rw[e2];exact(rU (key:=λx:Kept=>x.move.id) this).2.2
  apply ws;intros;unfold cH.j1;refine dX (λg=>?_) (λg=>?_)
  ·have g:x.due<=b.clock:=g;have fin:=l9 [] b hs vs bx _ hg hc (by rw[hL];exact h1 k hk ⟨e4,e5,by omega⟩);apply ws;intros;refine E8 (b:=b) (q:=dD la lk ti tn vs (c7 b)) many ?_;rw[hn];simp only[aev,aew];apply ws;intros;exact T.dp fin
  ·have g: ¬x.due<=b.clock:=g;have fin:=l9 [] b hs vs bx _ hg hc (by
    rw[hL]
    refine h0 λk' yh ho=>?_
    have S6:dh k'=some ⟨k'.move.born+k'.move.timeout,k'.move.ae,k'.move.id⟩:=by unfold dh;rw[if_pos ⟨ho.1,ho.2.1⟩]
    have:=u1 _ (List.mem_filterMap.2 ⟨k',yh,S6⟩)
    have h3:=ho.2.2
    unfold bf at this
    dsimp only at this
    omega)
   apply ws;intros;exact T.dp fin
 ·have fin:=l9 [] b hs vs bx _ hg hc (by
   rw[hL]
   refine h0 λk' yh ho=>?_
   have S6:dh k'=some ⟨k'.move.born+k'.move.timeout,k'.move.ae,k'.move.id⟩:=by unfold dh;rw[if_pos ⟨ho.1,ho.2.1⟩]
   have:_∈b.kept.filterMap dh:=List.mem_filterMap.2 ⟨k',yh,S6⟩
   rw[show b.kept.filterMap dh=[] from hn] at this
   cases this)
  apply ws;intros;unfold cH.j1;apply ws;intros;exact T.dp fin
end
def DG{b:ax}{m:Model}(hs:mg b m)(hg:Md.Ground m){id:Nat}(h:id∈m.made.map (·.id)):∃a,a∈m.made/\a.id=id/\b.find id=some (Md.full m.kept a):=by
 obtain⟨a,ha,rfl⟩:=aeI.1 h;refine⟨a,ha,rfl,?_⟩;rw[hs.find];unfold Model.find;rw[ni hg.ids ha];rfl
def B1{b:ax}{m:Model}(hs:mg b m)(hg:Md.Ground m){k:Kept}(hk:k∈m.kept)(h1:k.fate=1):Hk b k:=by
 obtain⟨gU,hd,hc⟩:=hg.tS k hk;obtain⟨d,ED,Fg,fd⟩:=DG hs hg hd;obtain⟨c,Mw,EE,fc⟩:=DG hs hg hc;have zd:=hg.zero d ED;have zc:=hg.zero c Mw;refine⟨⟨_,fd,?_,?_⟩,⟨_,fc,?_,?_⟩,gU⟩
 ·have:=O9 (wc d.id) m.kept k hk;have e:wc d.id k=k.move.aA:=if_pos ⟨h1,Fg.symm⟩;show k.move.aA<=d.dp+S (wc d.id) m.kept;omega
 ·show d.dp+S (wc d.id) m.kept+(d.dq+S (yn d.id) m.kept)<aJ;have:=hg.vP d ED;omega
 ·have:=O9 (we c.id) m.kept k hk;have e:we c.id k=k.move.aA:=if_pos ⟨h1,EE.symm⟩;show k.move.aA<=c.cp+S (we c.id) m.kept;omega
 ·show c.cp+S (we c.id) m.kept+(c.cq+S (yo c.id) m.kept)<aJ;have:=hg.s9 c Mw;omega
def R7{b:ax}{m:Model}(hs:mg b m)(hg:Md.Ground m):∀k∈b.kept,has k.move.flags 2->k.fate<=1->k.fate=1/\Hk b k:=λk hk h2 hf=>by
 rw[hs.kept] at hk;have:=hg.tv k hk;have h1:k.fate=1:=by have:=this.2.2.1 h2;omega
 exact⟨h1,B1 hs hg hk h1⟩
def BD(c:Int)(k:Kept):Kept:=if jy c k then{k with fate:=4} else k
def yO(c:Int)(l:List Kept):Nat:=(l.filter λk=>jy c k).length
def Db{c:Int}:∀{l:List Kept} {i:Nat}(hi:i<l.length),jy c l[i]->yO c (l.set i {l[i] with fate:=4})+1=yO c l
 |x::l,0,hi,h=>by
  have h2: ¬jy c {x with fate:=4}:=λhh=>absurd hh.1 (show ¬(4:Int)=1 by decide);have h:jy c x:=h;show((({x with fate:=4}:Kept)::l).filter _).length+1=((x::l).filter _).length;rw[aeY (by simpa using h2),aeX (by simpa using h),aee]
 |x::l,i+1,hi,h=>by
  have:=Db (c:=c) (l:=l) (i:=i) (by simpa using hi) h;show((x::l.set i _).filter _).length+1=((x::l).filter _).length;by_cases hx:jy c x
  ·rw[aeX (by simpa using hx),aeX (by simpa using hx),aee,aee];exact congrArg (·+1) this
  ·rw[aeY (by simpa using hx),aeY (by simpa using hx)];exact this
structure Sb(m m':Model):Prop where
 made:m'.made=m.made
 ae:m'.ae=m.ae
 clock:m'.clock=m.clock
 kept:m'.kept.map (BD m.clock)=m.kept.map (BD m.clock)
def Sb.refl(m:Model):Sb m m:=⟨rfl,rfl,rfl,rfl⟩
def Dc{b:ax}{m0 m:Model}(hs:mg b m)(hg:Md.Ground m)(hx:Sb m0 m){k:Kept}(hk:k∈b.kept)(ho:jy b.clock k):
 b.named k.move.id=some k/\Hk b k/\∃m',mg (b.release k.move 0 4) m'/\Md.Ground m'/\Sb m0 m'/\yO m0.clock m'.kept+1=yO m0.clock m.kept:=by
 rw[hs.kept] at hk;rw[hs.clock] at ho;obtain⟨i,hi,rfl⟩:=List.getElem_of_mem hk;have J0:b.named m.kept[i].move.id=some m.kept[i]:=by
  have:=uL (key:=λx:Kept=>x.move.id) hg.names hi;rw[hs.Ep];exact(rU (key:=λx:Kept=>x.move.id) this).2.2
 refine⟨J0,B1 hs hg hk ho.1,m.cJ i 4,hs.release hg hi ho.1 (.inr rfl) 0,hg.cJ hi ho.1 (.inr (.inr rfl)),⟨hx.made,hx.ae,hx.clock,?_⟩,?_⟩
 ·rw[<-hx.kept];rw[hx.clock] at ho;exact(GS hi m0.clock).resolve_right (λhh=>hh ho)
 ·rw[hx.clock] at ho;rw[oE hi];exact Db hi ho
def Dd{b:ax}{m0 m:Model}(hs:mg b m)(hx:Sb m0 m)(h:∀k∈b.kept,¬jy b.clock k):m={m0 with kept:=m0.kept.map (BD m0.clock)}:=by
 have h2:m.kept.map (BD m0.clock)=m.kept:=GU (m:=m) (clock:=m0.clock) λk hk=>by
  have:=h k (by rw[hs.kept];exact hk);rwa[hs.clock,hx.clock] at this
 rw[<-hx.kept,h2];obtain⟨x1,x2,x3,x4⟩:=hx;cases m;cases m0
 simp only at x1 x2 x3;subst x1;subst x2;subst x3;rfl
def qo(m:Model)(now:Int):Model:={m with clock:=if m.clock<now/\now<=1099511627776 then now else m.clock}
def DY(m:Model)(now:Int):m.time now={qo m now with kept:=(qo m now).kept.map (BD (qo m now).clock)}:=rfl
def Mc{b:ax}{m:Model}(hs:mg b m)(now:Int):mg (Go.Up.tick b now) (qo m now):=⟨hs.ah,hs.kept,by unfold Go.Up.tick qo;simp only[hs.clock],hs.ae⟩
def zl{m:Model}(hg:Md.Ground m)(now:Int):Md.Ground (qo m now):=⟨hg.zero,hg.ids,hg.lu,hg.names,hg.tv,hg.tS,hg.some_,hg.vP,hg.s9,hg.q9⟩
end Go.Up
