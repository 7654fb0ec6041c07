/- Part of the proof: see the last text. -/
import Derived.Test.YtibneekkkdnmgaaGreatDoorPB
set_option linter.all false
set_option maxRecDepth 100000
set_option synthInstance.maxSize 100000
open Bool renaming false_eq_true→cG,false_ne_true→cJ,eq_iff_iff→bZ
open Decidable renaming not_not→bp
open Go.IntKind renaming i64→aa
open Int renaming toNat_natCast→ak,le_refl→sS,fdiv_eq_ediv_of_nonneg→GI
open List renaming getElem?_eq_getElem→aj,getElem?_eq_some_iff→av,replicate→bj,append_nil→bO,map_append→cU,getElem?_set→cW,getElem?_map→dU,flatMap_append→gi,flatMap_cons→iP,ext_getElem?→oz,range→pK,getElem?_eq_none→pU,getElem?_range→q8,map_map→um,length_cons→aW,mem_of_getElem?→cn,mem_or_eq_of_mem_set→fm,length_replicate→iF,length_set→iH,set_cons_succ→lA,getElem?_of_mem→qB,take_length→aV,Perm→bX,perm_middle→iI,take_succ_eq_append_getElem→qA,length_append→au,length_take→aC,append_assoc→aH,length_drop→aR,take_add_one→ba,take_append_drop→dk,length_reverse→ju,getElem?_drop→lC,pairwise_iff_getElem→qj,perm_append_comm→bt,getElem?_append_left→cO,drop_of_length_le→fB,drop_eq_getElem_cons→gZ,getElem?_take→sj,length_singleton→pT,Sublist→bl,mem_map→dF,mem_cons→jX,nil_append→cT,set_set→jC,take_zero→og,reverse_cons→xW,take_left→CW,map_cons→dA,mem_append→dY,map_congr_left→mI,mem_of_find?_eq_some→ni,find?_eq_none→pM,map_nil→uk,mem_singleton→CX,length_map→bY,getElem_mem→cb,getElem?_cons_succ→bT,cons_append→lH,Mem→dM,getElem?_append_right→iJ,filter_cons_of_pos→lF,filter_cons_of_neg→lG,drop_drop→iL,drop_length→Hc
open Nat renaming zero_add→aD,mod_eq_of_lt→fD,mul_le_mul_right→iw,add_mul→mn,mul_comm→vK,add_sub_cancel_left→M1,pow_le_pow_right→gM,le_refl→aF,add_zero→gK,pow_succ→zx,zero_le→aE,sub_self→jS,mul_one→mm,min_eq_left→nA
open Option renaming some→bE,map_some→fF,getD_some→dz,isSome_some→dD,isSome_none→eX,getD_none→gN,map→yr
namespace Go.Md
def iU(a:bN)(bC:Bool):Nat:=if bC then a.cq-(a.dp+a.dq) else a.dq-(a.cp+a.cq)
def more(a:bN)(bC:Bool)(n:Nat)(pending:Bool):bN×Int:=
 if bC then
  (if bJ<=a.dp+a.dq+n then(a,32) else if has a.ao 2/\iU a true<n then(a,33) else(if pending then{a with dp:=a.dp+n} else{a with dq:=a.dq+n},0))
 else
  (if bJ<=a.cp+a.cq+n then(a,32) else if has a.ao 4/\iU a false<n then(a,34) else(if pending then{a with cp:=a.cp+n} else{a with cq:=a.cq+n},0))
def aA.full(m:aA)(a:bN):bN:=m.ax.foldl xg a
def aA.find(m:aA)(id:Nat):Option bN:=m.dj.find? λa=>a.id=id
def aA.name(m:aA)(id:Nat):Option Nat:=m.ax.findIdx? λk=>k.move.id=id
def aA.make(m:aA)(a:bN):Int×aA:=
 if tH a≠0 then(tH a,m) else match m.find a.id with
 |some x=>(qG a x,m)
 |none=>if 32<=m.dj.length then(35,m) else(0,{m with ay:=m.ay+1,dj:=m.dj++[{a with ay:=m.ay+1,ao:=a.ao/2* 2}]})
def aA.nj(m:aA)(asked t:cx)(fate:Int):aA:=
 {m with ay:=m.ay+1,ax:=m.ax++[⟨asked,{t with ay:=m.ay+1,jO:=m.clock},fate⟩]}
def cN(t:cx)(d c:bN):Nat×Int:=
 let n0:=if t.aT=0 then bJ-1 else t.aT
 let n1:=if has t.ao 16 then min n0 (iU d true) else n0
 if has t.ao 16/\n1=0 then(0,33) else
 let n2:=if has t.ao 32 then min n1 (iU c false) else n1
 if has t.ao 32/\n2=0 then(0,34) else(n2,0)
def iT(t:cx)(named:Option cr)(d c:Option bN)(many:Nat):Int×Nat:=
 if mM t≠0 then(mM t,0) else if jM t.ao then(6,0) else match named with
 |some k=>(qf t k.asked,0)
 |none=>match d with
  |none=>(19,0)
  |some d=>match c with
   |none=>(20,0)
   |some c=>
    if d.bF≠c.bF then(21,0) else if d.bF≠t.bF then(22,0) else if 8<=d.ao then(30,0) else if 8<=c.ao then(31,0)
    else if 96<=many then(35,0)
    else if(cN t d c).2≠0 then((cN t d c).2,0)
    else if(more d true (cN t d c).1 (decide (has t.ao 2))).2≠0 then((more d true (cN t d c).1 (decide (has t.ao 2))).2,0)
    else if(more c false (cN t d c).1 (decide (has t.ao 2))).2≠0 then((more c false (cN t d c).1 (decide (has t.ao 2))).2,0)
    else(0,(cN t d c).1)
def waits(t:cx):Int:=if has t.ao 2 then 1 else 0
def aA.named(m:aA)(id:Nat):Option cr:=m.ax.find? λk=>k.move.id=id
def aA.move(m:aA)(t:cx):Int×aA:=
 let r:=iT t (m.named t.id) ((m.find t.bC).map m.full) ((m.find t.aU).map m.full) m.ax.length
 if r.1≠0 then(r.1,m) else(0,m.nj t {t with aT:=r.2} (waits t))
def aA.closed(m:aA)(id:Nat)(Yl:Nat):Bool:=
 match m.find id with
 |some a=>decide (8<=((m.ax.modify Yl λk=>{k with fate:=3}).foldl xg a).ao)
 |none=>false
def fP(t p:cx):Prop:=(t.bC≠0/\t.bC≠p.bC)\/(t.aU≠0/\t.aU≠p.aU)\/(t.bF≠0/\t.bF≠p.bF)\/(t.code≠0/\t.code≠p.code)
instance(t p:cx):Decidable (fP t p):=by unfold fP;infer_instance
def dw(t p:cx):Nat:=if t.aT=0 then p.aT else t.aT
def mA(t p:cx):Prop:=(has t.ao 4/\p.aT<dw t p)\/(¬has t.ao 4/\dw t p≠p.aT)
instance(t p:cx):Decidable (mA t p):=by unfold mA;infer_instance
def kM(t:cx)(named pend:Option cr)(Yb Yj:Bool)(many:Nat):Int:=
 if mM t≠0 then mM t else if ¬jM t.ao then 6 else match named with
 |some k=>qf t k.asked
 |none=>match pend with
  |none=>23
  |some k=>
   if ¬has k.move.ao 2 then 24 else if fP t k.move then 25 else if 1<k.fate then 25+k.fate else if mA t k.move then 26
   else if has t.ao 4/\Yb=true then 30 else if has t.ao 4/\Yj=true then 31 else if 96<=many then 35 else 0
def dP(t:cx):Int:=if has t.ao 4 then 2 else 3
def nL(t p:cx):cx:={t with bC:=p.bC,aU:=p.aU,aT:=dw t p,bF:=p.bF,code:=p.code}
def aA.eS(m:aA)(i:Nat)(fate:Int):aA:={m with ax:=m.ax.modify i λk=>{k with fate:=fate}}
def aA.oT(m:aA)(t:cx):Int×aA:=
 match m.name t.pending with
 |none=>(kM t (m.named t.id) none false false m.ax.length,m)
 |some i=>match m.ax[i]? with
  |none=>(kM t (m.named t.id) none false false m.ax.length,m)
  |some k=>
   let r:=kM t (m.named t.id) (some k) (m.closed k.move.bC i) (m.closed k.move.aU i) m.ax.length
   if r≠0 then(r,m) else(0,(m.eS i (dP t)).nj t (nL t k.move) 0)
def nr(clock:Int)(k:cr):Prop:=k.fate=1/\0<k.move.cA/\k.move.jO+k.move.cA<=clock
instance(clock:Int)(k:cr):Decidable (nr clock k):=by unfold nr;infer_instance
def aA.time(m:aA)(now:Int):aA:=
 let clock:=if m.clock<now/\now<=1099511627776 then now else m.clock
 {m with clock:=clock,ax:=m.ax.map λk=>if nr clock k then{k with fate:=4} else k}
def aA.lO(m:aA)(t:cx):Int×aA:=if mM t=0/\jM t.ao then m.oT t else m.move t
def bh.find(b:bh)(id:Nat):Option bN:=b.aB.find? λa=>a.id=id
def bh.bB(b:bh)(a:bN):bh:={b with aB:=b.aB.map λx=>if x.id=a.id then{a with ay:=x.ay} else x}
def bh.nj(b:bh)(asked t:cx)(fate:Int):bh:=
 {b with ay:=b.ay+1,ax:=b.ax++[⟨asked,{t with ay:=b.ay+1,jO:=b.clock},fate⟩]}
def bh.fate(b:bh)(id:Nat)(fate:Int):bh:={b with ax:=b.ax.map λk=>if k.move.id=id/\k.fate=1 then{k with fate:=fate} else k}
def bh.make(b:bh)(a:bN):Int×bh:=
 if tH a≠0 then(tH a,b) else match b.find a.id with
 |some x=>(qG a x,b)
 |none=>if 32<=b.aB.length then(35,b) else(0,{b with ay:=b.ay+1,aB:=b.aB++[{a with ay:=b.ay+1,ao:=a.ao/2* 2}]})
def close(a:bN)(yes:Prop)[Decidable yes]:bN:=if yes then{a with ao:=a.ao%8+8} else a
def open_(a:bN)(yes:Prop)[Decidable yes]:bN:=if yes then{a with ao:=a.ao%8} else a
def bh.named(b:bh)(id:Nat):Option cr:=b.ax.find? λk=>k.move.id=id
def bh.Dd(b:bh)(t:cx)(n:Nat):bh:=
 match b.find t.bC,b.find t.aU with
 |some d,some c=>((b.bB (close (more d true n (decide (has t.ao 2))).1 (has t.ao 64))).bB (close (more c false n (decide (has t.ao 2))).1 (has t.ao 128))).nj t {t with aT:=n} (waits t)
 |_,_=>b
def bh.move(b:bh)(t:cx):Int×bh:=
 let r:=iT t (b.named t.id) (b.find t.bC) (b.find t.aU) b.ax.length
 if r.1≠0 then(r.1,b) else(0,b.Dd t r.2)
def An(d:bN)(p:cx)(n:Nat)(fate:Int):bN:=if fate=2 then{d with dp:=d.dp-p.aT,dq:=d.dq+n} else open_ {d with dp:=d.dp-p.aT} (has p.ao 64)
def Bm(c:bN)(p:cx)(n:Nat)(fate:Int):bN:=if fate=2 then{c with cp:=c.cp-p.aT,cq:=c.cq+n} else open_ {c with cp:=c.cp-p.aT} (has p.ao 128)
def bh.release(b:bh)(p:cx)(n:Nat)(fate:Int):bh:=
 match b.find p.bC,b.find p.aU with
 |some d,some c=>((b.bB (An d p n fate)).bB (Bm c p n fate)).fate p.id fate
 |_,_=>b
def bh.mL(b:bh)(id:Nat)(by_:Prop)[Decidable by_]:Bool:=match b.find id with|some d=>decide (8<=d.ao/\ ¬by_)|none=>false
def bh.oT(b:bh)(t:cx):Int×bh:=
 match b.named t.pending with
 |none=>(kM t (b.named t.id) none false false b.ax.length,b)
 |some k=>
  let r:=kM t (b.named t.id) (some k) (b.mL k.move.bC (has k.move.ao 64)) (b.mL k.move.aU (has k.move.ao 128)) b.ax.length
  if r≠0 then(r,b) else(0,(b.release k.move (dw t k.move) (dP t)).nj t (nL t k.move) 0)
def bh.lO(b:bh)(t:cx):Int×bh:=if mM t=0/\jM t.ao then b.oT t else b.move t
end Go.Md
namespace Go.Up
open Go.Sep Go.Den Go.RowKit Go.Prog Go.Md
section
variable {W:World} {L:LH} {K:VK} {a:bN} {n m:Nat} {p:Bool}
def aav{a b:Nat}:(if a+b<bJ then a+b else bJ-1)<bJ:=by unfold bJ;split<;>omega
def OY(G:qi W)(hn:n<bJ)(hm:m<bJ)(h:T W L (K (.agg ⟨nm (if n+m<bJ then n+m else bJ-1)⟩))):T W L (jh (nm n) (nm m) K):=by
 unfold jh
 repeat' first|apply ws;intros|apply wb|first|refine DD hn hm ?_|refine O4 ⟨yP _,G.Xe⟩ ?_|apply db<;>intro h1
 all_goals (apply T.fin (T.dp h);try simp only[bz] at *)
 ·rw[af (by omega)]
 ·rw[ai h1,ai h1]
def J7(G:qi W)(ha:yi a)(h:T W L (K (.agg ⟨nm (iU a p)⟩))):T W L (dH (aO a) p K):=by
 obtain⟨-,d1,d2,c1,c2,-,-,-,-⟩:=ha;unfold dH;have k1:∀x y z:Nat,x<bJ->y<bJ->z<bJ->(if x<(if y+z<bJ then y+z else bJ-1) then 0 else x-(if y+z<bJ then y+z else bJ-1))=x-(y+z):=λx y z hx hy hz=>by
  by_cases hh:y+z<bJ
  ·rw[ai hh];split<;>omega
  ·rw[af hh];split<;>omega
 have e1:p=true->iU a p=a.cq-(a.dp+a.dq):=λe=>by rw[e];rfl
 have e2:p=false->iU a p=a.dq-(a.cp+a.cq):=λe=>by rw[e];rfl
 repeat' first|apply ws;intros|apply wb|first|refine OY G d1 d2 ?_|refine OY G c1 c2 ?_|apply db<;>intro h1
 all_goals simp only[dH.j1,dH.j2,dH.j3,dH.j4,dH.j5,dH.j6]
 all_goals repeat' first|apply ws;intros|apply wb|refine Vf (by assumption) aav ?_
 all_goals (refine T.fin (T.dp h) ?_;first|rw[e1 (by assumption),k1 _ _ _ (by assumption) (by assumption) (by assumption)]|rw[e2 (by assumption),k1 _ _ _ (by assumption) (by assumption) (by assumption)])
def FV(ha:yi a):iU a p<bJ:=by
 have:=ha.dq;have:=ha.cq;unfold iU;split<;>omega
def Tc(x y z:Nat):C4 0 [x,y,z]=if x+y+z<bJ then some (x+y+z) else none:=by
 simp only[C4,aD]
 repeat' split
 all_goals first|rfl|omega
def YE(G:qi W)(ha:yi a)(hn:n<bJ)(hf:0<=a.ao/\a.ao<256)(h:T W L (K (.tuple ⟨[.agg ⟨aO (more a true n p).1⟩,.i (more a true n p).2]⟩))):T W L (nN (aO a) (nm n) p K):=by
 unfold nN;apply ws;intros;rename_i r4;refine ZT (l:=[a.dp,a.dq,n]) (by simp;exact⟨ha.dp,ha.dq,hn⟩) (by show 3<1000;decide) ?_;rw[Tc];apply ws;intros;unfold more at h;apply db<;>intro h1
 ·have hh: ¬a.dp+a.dq+n<bJ:=λhh=>by rw[ai hh] at h1;cases h1
  rw[ai rfl,ai (by omega)] at h;apply ws;exact T.dp h
 have hh:a.dp+a.dq+n<bJ:=by
  by_cases hh:a.dp+a.dq+n<bJ
  ·exact hh
  ·rw[af hh] at h1;cases h1
 rw[ai rfl,af (by omega)] at h;have j1:∀r5 r4 r3 r2 r1:Nat,∀c4 c5:LV,T W (Sep.pt r5 c5::Sep.pt r4 c4::Sep.pt r3 (aO zA)::Sep.pt r2 (nm n)::Sep.pt r1 (aO a)::L) (nN.j1 K r1 r3 p r2 (decide (has a.ao 2/\iU a true<n))):=λr5 r4 r3 r2 r1 c4 c5=>by
  unfold nN.j1;apply fZ<;>intro h1
  ·rw[ai (h1)] at h;apply ws;exact T.dp h
  rw[af (h1)] at h;apply db<;>intro h1
  ·rw[ai h1] at h;have hx:a.dp+n<bJ:=by omega
   repeat' first|apply ws|apply wb|refine DD ha.dp hn ?_
   rw[ai hx];exact T.dp h
  ·rw[af (by rw[h1];decide)] at h;have hx:a.dq+n<bJ:=by omega
   repeat' first|apply ws|apply wb|refine DD ha.dq hn ?_
   rw[ai hx];exact T.dp h
 apply ws;apply db<;>intro h1
 ·have h2:has a.ao 2:=by
   have:=eY.1 h1;rw[ne_eq,Mq hf.1 hf.2,bp] at this;exact this
  repeat' first|apply ws|apply wb|first|refine J7 G ha ?_|refine CV ?_
  have e:decide (iU a true<n)=decide (has a.ao 2/\iU a true<n):=by simp[h2]
  rw[e];exact j1 _ _ _ _ _ _ _
 ·have h2: ¬has a.ao 2:=(Mq hf.1 hf.2).1 (bne_eq_false_iff_eq.1 h1);have e:false=decide (has a.ao 2/\iU a true<n):=by simp[h2]
  rw[e];exact j1 _ _ _ _ _ _ _
def Vy(G:qi W)(ha:yi a)(hn:n<bJ)(hf:0<=a.ao/\a.ao<256)(h:T W L (K (.tuple ⟨[.agg ⟨aO (more a false n p).1⟩,.i (more a false n p).2]⟩))):T W L (mD (aO a) (nm n) p K):=by
 unfold mD;apply ws;intros;rename_i r4;refine ZT (l:=[a.cp,a.cq,n]) (by simp;exact⟨ha.cp,ha.cq,hn⟩) (by show 3<1000;decide) ?_;rw[Tc];apply ws;intros;unfold more at h;apply db<;>intro h1
 ·have hh: ¬a.cp+a.cq+n<bJ:=λhh=>by rw[ai hh] at h1;cases h1
  rw[af (by decide),ai (by omega)] at h;apply ws;exact T.dp h
 have hh:a.cp+a.cq+n<bJ:=by
  by_cases hh:a.cp+a.cq+n<bJ
  ·exact hh
  ·rw[af hh] at h1;cases h1
 rw[af (by decide),af (by omega)] at h;have j1:∀r5 r4 r3 r2 r1:Nat,∀c4 c5:LV,T W (Sep.pt r5 c5::Sep.pt r4 c4::Sep.pt r3 (aO zA)::Sep.pt r2 (nm n)::Sep.pt r1 (aO a)::L) (mD.j1 K r1 r3 p r2 (decide (has a.ao 4/\iU a false<n))):=λr5 r4 r3 r2 r1 c4 c5=>by
  unfold mD.j1;apply fZ<;>intro h1
  ·rw[ai (h1)] at h;apply ws;exact T.dp h
  rw[af (h1)] at h;apply db<;>intro h1
  ·rw[ai h1] at h;have hx:a.cp+n<bJ:=by omega
   repeat' first|apply ws|apply wb|refine DD ha.cp hn ?_
   rw[ai hx];exact T.dp h
  ·rw[af (by rw[h1];decide)] at h;have hx:a.cq+n<bJ:=by omega
   repeat' first|apply ws|apply wb|refine DD ha.cq hn ?_
   rw[ai hx];exact T.dp h
 apply ws;apply db<;>intro h1
 ·have h2:has a.ao 4:=by
   have:=eY.1 h1;rw[ne_eq,Mp hf.1 hf.2,bp] at this;exact this
  repeat' first|apply ws|apply wb|first|refine J7 G ha ?_|refine CV ?_
  have e:decide (iU a false<n)=decide (has a.ao 4/\iU a false<n):=by simp[h2]
  rw[e];exact j1 _ _ _ _ _ _ _
 ·have h2: ¬has a.ao 4:=(Mp hf.1 hf.2).1 (bne_eq_false_iff_eq.1 h1);have e:false=decide (has a.ao 4/\iU a false<n):=by simp[h2]
  rw[e];exact j1 _ _ _ _ _ _ _
end
end Go.Up
namespace Go.Up
open Go.Sep Go.Den Go.RowKit Go.Prog Go.Md Go.cH
section
variable {W:World} {L:LH} {K:VK} {X:WK} {α:Type} {r n c e o j:Nat} {l:List α} {x y:α} {g:α->LV} {f:HP->LH}
def ij{K:LV->WK}[i:vI (ah r) n c L e (l.flatMap g) f](hf:∀x,(g x).length=e)(hx:l[o]?=some x)(h:T W L (K (g x))):T W L (aJ ⟨r,o* e,none⟩ e K):=λw hs=>by
 obtain⟨k,hk,_⟩:=i.at_;exact Ec hs hk (hf x) (qP hf l o x hx) (h w hs)
def ES{v:Value}[i:vI (ah r) n c L e (l.flatMap g) f](hf:∀x,(g x).length=e)(hx:l[o]?=some x)(hv:(g x)[j]?=some v)(h:T W L (K v)):T W L (ld ⟨r,o* e+j,none⟩ K):=λw hs=>by
 obtain⟨k,hk,_⟩:=i.at_;exact Av hs hk (qP hf l o x hx j v hv) (h w hs)
def Cc{v:Value}[i:vI (ah r) n c L e (l.flatMap g) f](hf:∀x,(g x).length=e)(hx:l[o]?=some x)(hv:(g x)[0]?=some v)(h:T W L (K v)):T W L (ld ⟨r,o* e,none⟩ K):=ES (j:=0) hf hx hv h
def Jy(hf:∀x,(g x).length=e)(ho:o<l.length):o* e+e<=(l.flatMap g).length:=by
 rw[BM hf,<-Nat.succ_mul];exact iw e ho
def q9[i:vI (ah r) n c L e (l.flatMap g) f](hf:∀x,(g x).length=e)(ho:o<l.length)(h1:∀v∈g x,v.oneCell'=true)
 (h:T W (f (own (ah r) n c e ((l.set o x).flatMap g))) X):T W L (jU ⟨r,o* e,none⟩ (g x) X):=λw hs=>by
 obtain⟨k,hk,e1⟩:=i.at_;refine Wn hs hk (by rw[hf];exact Jy hf ho) h1 λw' h'=>h w' ?_;rw[e1,<-F0 hf l o x ho];exact h'
def CD{v:Value}(hf:∀x,(g x).length=e)(hx:l[o]?=some x)(hy:g y=(g x).set j v)(hj:j<e):(l.flatMap g).set (o* e+j) v=(l.set o y).flatMap g:=by
 have ho:=(av.1 hx).1;have hle:=Jy hf ho;rw[<-F0 hf l o y ho];apply oz;intro i;rw[Br (by rw[hf];exact hle),cW];by_cases h1:i<o* e
 ·rw[ai h1,af (by omega)]
 ·rw[af h1];by_cases h2:i<o* e+(g y).length
  ·rw[ai h2,hy,cW];rw[hf] at h2;obtain⟨m,rfl⟩:∃m,i=o* e+m:=⟨i-o* e,by omega⟩;rw[M1];by_cases h3:j=m
   ·subst h3;rw[ai rfl,ai rfl,ai (by omega),ai (by rw[hf];omega)]
   ·rw[af (by omega),af h3];have hm:m<(g x).length:=by rw[hf];omega
    rw[aj hm];exact qP hf l o x hx m _ (aj hm)
  ·rw[af h2,af (by rw[hf] at h2;omega)]
def EO{v:Value}[i:vI (ah r) n c L e (l.flatMap g) f](hf:∀x,(g x).length=e)(hx:l[o]?=some x)(hy:g y=(g x).set j v)(hj:j<e)(h1:v.oneCell'=true)
 (h:T W (f (own (ah r) n c e ((l.set o y).flatMap g))) X):T W L (st ⟨r,o* e+j,none⟩ v X):=λw hs=>by
 obtain⟨k,hk,e1⟩:=i.at_;have ho:=(av.1 hx).1;have hle:=Jy (g:=g) hf ho;refine Cd hs hk (by omega) h1 λw' h'=>h w' ?_;rw[e1,<-CD hf hx hy hj];exact h'
def IL{bytes:Nat}{zero:LV}{len cap:Int}{K:OA->Nat->Nat->WK}(h0:0<=len/\len<=cap/\cap<=9223372036854775807/\cap* bytes<=281474976710656)
 (hK:∀r,T W (own (ah r) len.toNat cap.toNat zero.length (Builtin.zeroCells ⟨zero⟩ len.toNat).toList::L) (K (ah r) len.toNat cap.toNat)):T W L (Lh bytes zero len cap K):=λw hs=>
 TP hs h0 λr w' h'=>hK r w' h'
def rD{z:α}{zs:LV}(hz:g z=zs)(m:Nat):(Builtin.zeroCells ⟨zs⟩ m).toList=(bj m z).flatMap g:=by
 subst hz
 induction m with
 |zero=>simp[Builtin.zeroCells]
 |succ m ih=>
  rw[List.replicate_succ',gi,<-ih];simp only[Builtin.zeroCells,Array.toList_map,Array.toList_range,iP,List.flatMap_nil,bO];rw[mn,Nat.one_mul,List.range_add,cU,um]
  congr 1
  show(pK (g z).length).map _=g z;apply oz;intro j;rw[dU];by_cases hj:j<(g z).length
  ·rw[q8 hj,aj hj];show some _=some _
   congr 1
   simp only[Function.comp];show(⟨g z⟩:Array Value)[(m* (g z).length+j)%(g z).length]! =_;rw[vK,Nat.mul_add_mod,fD hj];simp[hj]
  ·rw[pU (by simpa using hj),pU (by omega)];rfl
end
structure Cell where
 key:Nat
 at_:Int
 kind:Int
def om(c:Cell):LV:=nm c.key++[.i c.at_,.int .u8 c.kind]
def sP(c:Cell):(om c).length=4:=rfl
instance{c:Cell}:Ln (om c) 4:=⟨rfl⟩
instance{c:Cell}:Gt (om c) 3 (.int .u8 c.kind):=⟨rfl⟩
def zq(c:Cell):∀v∈om c,v.oneCell'=true:=ph (oJ _) λv h=>by simp at h;rcases h with rfl|rfl<;>rfl
def Pc(n1 n2:Int):Int:=IntKind.u64.wrap ((de .u64 .xor (de .u64 .xor n1 (shl .u64 n2 31)) (shr .u64 n2 33))* 11400714819323198485)
def Pb(x:Int):Int:=de .u64 .xor x (shr .u64 x 29)
def spread(k:Nat):Int:=Pb (Pc ((k%18446744073709551616:Nat):Int) ((k/18446744073709551616:Nat):Int))
def Pow(N:Nat):Prop:=∃j,3<=j/\j<=20/\N=2^j
def Pow.ge{N:Nat}(h:Pow N):8<=N:=by
 obtain⟨j,h1,h2,rfl⟩:=h;exact gM (by decide) h1 (n:=2)
def Pow.le{N:Nat}(h:Pow N):N<=1048576:=by
 obtain⟨j,h1,h2,rfl⟩:=h;exact gM (by decide) h2 (n:=2)
def Mv{N x:Nat}(h:Pow N)(hx:x<18446744073709551616):de .u64 .and (x:Int) ((N:Int) -1)=((x%N:Nat):Int):=by
 have h1:=h.ge;have h2:=h.le;obtain⟨j,-,-,rfl⟩:=h;have e:((2^j:Nat):Int) -1=((2^j-1:Nat):Int):=by omega
 rw[e];unfold de;show IntKind.u64.wrap (((BitVec.ofInt 64 (x:Int)&&&BitVec.ofInt 64 ((2^j-1:Nat):Int)).toNat:Nat):Int)=_;rw[BitVec.toNat_and];have t1:(BitVec.ofInt 64 (x:Int)).toNat=x:=by simp only[BitVec.toNat_ofInt];omega
 have t2:(BitVec.ofInt 64 ((2^j-1:Nat):Int)).toNat=2^j-1:=by simp only[BitVec.toNat_ofInt];omega
 rw[t1,t2,Nat.and_two_pow_sub_one_eq_mod];have:x%2^j<=x:=Nat.mod_le _ _;exact sm (by omega)
def TW(op:BinOp)(x y:Int)(h:op=.and\/op=.or\/op=.xor\/op=.andNot):0<=de .u64 op x y/\de .u64 op x y<18446744073709551616:=by
 rcases h with h|h|h|h<;>subst h<;>(unfold de;dsimp only;simp only[IntKind.wrap,IntKind.bits,IntKind.signed];simp;omega)
def hh(N k:Nat):Nat:=(spread k).toNat%N
def ads{N:Nat}(h:0<N)(k:Nat):hh N k<N:=Nat.mod_lt _ h
def Nk(k:Nat):0<=spread k/\spread k<18446744073709551616:=by
 unfold spread;generalize Pc _ _=x;unfold Pb;generalize shr .u64 x 29=y;exact TW .xor x y (by simp)
def Nl{N k:Nat}(h:Pow N):de .u64 .and (spread k) ((N:Int) -1)=((hh N k:Nat):Int):=by
 obtain⟨h1,h2⟩:=Nk k;unfold hh;generalize spread k=x at h1 h2;obtain⟨n,rfl⟩:∃n:Nat,x=n:=⟨x.toNat,by omega⟩;rw[ak];exact Mv h (by omega)
def NF(cs:List Cell)(i:Nat):Prop:=∃c:Cell,cs[i]?=some c/\c.kind≠0
structure TI(cs:List Cell)(m:Nat->Option Int)(u lf:Nat):Prop where
 pow:Pow cs.length
 kinds:∀c∈cs,c.kind=0\/c.kind=1\/c.kind=2
 used:cs.countP (λc:Cell=>c.kind=1)=u
 left:cs.countP (λc:Cell=>c.kind=2)=lf
 room:4* (u+lf)<=3* cs.length
 run:∀(i:Nat)(c:Cell),cs[i]?=some c->c.kind=1->∃d,d<cs.length/\i=(hh cs.length c.key+d)%cs.length/\∀j,j<d->NF cs ((hh cs.length c.key+j)%cs.length)
 is:∀(i:Nat)(c:Cell),cs[i]?=some c->c.kind=1->m c.key=some c.at_
 has:∀k v,m k=some v->∃(i:Nat)(c:Cell),cs[i]?=some c/\c.kind=1/\c.key=k
 one:∀(i j:Nat)(c d:Cell),cs[i]?=some c->cs[j]?=some d->c.kind=1->d.kind=1->c.key=d.key->i=j
def UK:∀(cs:List Cell),(∀c∈cs,c.kind=0\/c.kind=1\/c.kind=2)->cs.countP (λc:Cell=>c.kind=0)+cs.countP (λc:Cell=>c.kind=1)+cs.countP (λc:Cell=>c.kind=2)=cs.length
 |[],_=>rfl
 |c::cs,h=>by
  have ih:=UK cs λd hd=>h d (by simp[hd]);simp only[List.countP_cons,aW];rcases h c (by simp) with e|e|e<;>simp[e]<;>omega
def countP_set{p:Cell->Bool}:∀(cs:List Cell)(i:Nat)(c x:Cell),cs[i]?=some c->(cs.set i x).countP p+(if p c then 1 else 0)=cs.countP p+(if p x then 1 else 0)
 |[],i,c,x,h=>by simp at h
 |d::cs,0,c,x,h=>by
  simp at h;subst h;simp only[List.set_cons_zero,List.countP_cons];omega
 |d::cs,i+1,c,x,h=>by
  have ih:=countP_set (p:=p) cs i c x (by simpa using h);simp only[lA,List.countP_cons];omega
def TI.free{cs:List Cell}{m:Nat->Option Int}{u lf:Nat}(h:TI cs m u lf)(s:Nat)(ha:∀j,j<cs.length->NF cs ((s+j)%cs.length)):False:=by
 have h8:=h.pow.ge;have hc:=UK cs h.kinds;rw[h.used,h.left] at hc;have h0:0<cs.countP (λc:Cell=>c.kind=0):=by have:=h.room;omega
 rw[List.countP_pos_iff] at h0;obtain⟨c,hm,hk⟩:=h0;obtain⟨i,hi⟩:=qB hm;have cj:=(av.1 hi).1;have e:(s+(i+cs.length-s%cs.length)%cs.length)%cs.length=i:=by
  have h1:s%cs.length<cs.length:=Nat.mod_lt _ (by omega);rw[Nat.add_mod_mod,Nat.add_mod,];have:s+(i+cs.length-s%cs.length)=cs.length* (s/cs.length+1)+i:=by
   have:=Nat.div_add_mod s cs.length;rw[Nat.mul_add];omega
  rw[<-Nat.add_mod,this,Nat.mul_add_mod,fD cj]
 obtain⟨d,hd,hn⟩:=ha ((i+cs.length-s%cs.length)%cs.length) (Nat.mod_lt _ (by omega));rw[e,hi] at hd;cases hd
 simp at hk;exact hn hk
structure FR(cs:List Cell)(k p:Nat):Prop where
 place:∃(c:Cell)(d:Nat),cs[p]?=some c/\c.kind≠1/\d<cs.length/\p=(hh cs.length k+d)%cs.length/\∀j,j<d->NF cs ((hh cs.length k+j)%cs.length)
 none_:∀(i:Nat)(c:Cell),cs[i]?=some c->c.kind=1->c.key≠k
def wR(m:Nat->Option Int)(k:Nat)(v:Option Int):Nat->Option Int:=λj=>if j=k then v else m j
def NF.set{cs:List Cell}{i p:Nat}{x:Cell}(h:NF cs i)(hx:x.kind≠0):NF (cs.set p x) i:=by
 obtain⟨c,hc,hk⟩:=h;have cj:=(av.1 hc).1;unfold NF;rw[cW];by_cases e:p=i
 ·rw[ai e,ai (by omega)];exact⟨x,rfl,hx⟩
 ·rw[af e];exact⟨c,hc,hk⟩
def TI.CS{cs:List Cell}{m:Nat->Option Int}{u lf k:Nat}(h:TI cs m u lf)(hn:∀(i:Nat)(c:Cell),cs[i]?=some c->c.kind=1->c.key≠k):m k=none:=by
 cases hm:m k with
 |none=>rfl
 |some v=>
  obtain⟨i,c,h1,h2,h3⟩:=h.has k v hm;exact aQ h3 (hn i c h1 h2)
def vr{cs:List Cell}{p i:Nat}{x c:Cell}(h:(cs.set p x)[i]?=some c):(i=p/\c=x/\p<cs.length)\/(i≠p/\cs[i]?=some c):=by
 rw[cW] at h;by_cases e:p=i
 ·rw[ai e] at h;by_cases hl:p<cs.length
  ·rw[ai (by omega)] at h;cases h;exact .inl ⟨e.symm,rfl,hl⟩
  ·rw[af (by omega)] at h;cases h
 ·rw[af e] at h;exact .inr ⟨λh=>e h.symm,h⟩
def TI.put{cs:List Cell}{m:Nat->Option Int}{u lf k p:Nat}{v:Int}{c:Cell}(h:TI cs m u lf)(f:FR cs k p)(hp:cs[p]?=some c)(hr:4* (u+lf+1)<=3* cs.length):
 TI (cs.set p ⟨k,v,1⟩) (wR m k (some v)) (u+1) (if c.kind=2 then lf-1 else lf):=by
 obtain⟨⟨c',d,LO,hk,hd,hpd,hj⟩,oZ⟩:=f;rw[hp] at LO;cases LO
 have cj:=(av.1 hp).1;have hl:(cs.set p ⟨k,v,1⟩).length=cs.length:=iH;have c1:=countP_set (p:=λc:Cell=>c.kind=1) cs p c ⟨k,v,1⟩ hp;have c2:=countP_set (p:=λc:Cell=>c.kind=2) cs p c ⟨k,v,1⟩ hp;have qe:c∈cs:=cn hp;have hnk:=h.CS oZ;rw[h.used] at c1;rw[h.left] at c2;refine⟨by rw[hl];exact h.pow,?_,?_,?_,?_,?_,?_,?_,?_⟩
 ·intro x hx;rcases fm hx with hx|hx
  ·exact h.kinds x hx
  ·subst hx;exact .inr (.inl rfl)
 ·simp[hk] at c1;simpa using c1
 ·by_cases e:c.kind=2
  ·rw[ai e];simp[e] at c2;simpa using by omega
  ·rw[af e];simp[e] at c2;simpa using c2
 ·rw[hl];split<;>omega
 ·rw[hl];intro i x hi hx;rcases vr hi with⟨rfl,rfl,_⟩|⟨jW,hi⟩
  ·exact⟨d,hd,hpd,λj h1=>(hj j h1).set (show(1:Int)≠0 by decide)⟩
  ·obtain⟨d',h1,h2,h3⟩:=h.run i x hi hx;exact⟨d',h1,h2,λj h4=>(h3 j h4).set (show(1:Int)≠0 by decide)⟩
 ·intro i x hi hx;rcases vr hi with⟨rfl,rfl,_⟩|⟨jW,hi⟩
  ·simp[wR]
  ·unfold wR;rw[af (oZ i x hi hx)];exact h.is i x hi hx
 ·intro k' v' AU;unfold wR at AU;by_cases e:k'=k
  ·subst e;exact⟨p,⟨k',v,1⟩,by rw[cW,ai rfl,ai cj],rfl,rfl⟩
  ·rw[af e] at AU;obtain⟨i,x,h1,h2,h3⟩:=h.has k' v' AU;refine⟨i,x,?_,h2,h3⟩;rw[cW,af]
   ·exact h1
   ·intro e2;subst e2;rw[hp] at h1;cases h1;exact hk h2
 ·intro i j x y hi MR hx hy he;rcases vr hi with⟨rfl,rfl,_⟩|⟨jW,hi⟩<;>rcases vr MR with⟨rfl,rfl,_⟩|⟨aff,MR⟩
  ·rfl
  ·exact aQ he.symm (oZ j y MR hy)
  ·exact aQ he (oZ i x (by assumption) hx)
  ·exact h.one i j x y (by assumption) (by assumption) hx hy he
def TI.drop{cs:List Cell}{m:Nat->Option Int}{u lf p:Nat}{c:Cell}(h:TI cs m u lf)(hp:cs[p]?=some c)(hk:c.kind=1):
 TI (cs.set p ⟨0,0,2⟩) (wR m c.key none) (u-1) (lf+1)/\1<=u:=by
 have cj:=(av.1 hp).1;have hl:(cs.set p ⟨0,0,2⟩).length=cs.length:=iH;have c1:=countP_set (p:=λc:Cell=>c.kind=1) cs p c ⟨0,0,2⟩ hp;have c2:=countP_set (p:=λc:Cell=>c.kind=2) cs p c ⟨0,0,2⟩ hp;rw[h.used] at c1;rw[h.left] at c2;have hu:1<=u:=by simp[hk] at c1;omega
 refine⟨⟨by rw[hl];exact h.pow,?_,?_,?_,by rw[hl];have:=h.room;omega,?_,?_,?_,?_⟩,hu⟩
 ·intro x hx;rcases fm hx with hx|hx
  ·exact h.kinds x hx
  ·subst hx;exact .inr (.inr rfl)
 ·simp[hk] at c1;simpa using by omega
 ·simp[hk] at c2;simpa using c2
 ·rw[hl];intro i x hi hx;rcases vr hi with⟨rfl,rfl,_⟩|⟨jW,hi⟩
  ·exact aQ hx (by decide)
  ·obtain⟨d',h1,h2,h3⟩:=h.run i x hi hx;exact⟨d',h1,h2,λj h4=>(h3 j h4).set (by decide)⟩
 ·intro i x hi hx;rcases vr hi with⟨rfl,rfl,_⟩|⟨jW,hi⟩
  ·exact aQ hx (by decide)
  ·have:x.key≠c.key:=λe=>jW (h.one i p x c hi hp hx hk e);unfold wR;rw[af this];exact h.is i x hi hx
 ·intro k' v' AU;unfold wR at AU;by_cases e:k'=c.key
  ·rw[ai e] at AU;cases AU
  ·rw[af e] at AU;obtain⟨i,x,h1,h2,h3⟩:=h.has k' v' AU;refine⟨i,x,?_,h2,h3⟩;rw[cW,af]
   ·exact h1
   ·intro e2;subst e2;rw[hp] at h1;cases h1;exact e h3.symm
 ·intro i j x y hi MR hx hy he;rcases vr hi with⟨rfl,rfl,_⟩|⟨jW,hi⟩<;>rcases vr MR with⟨rfl,rfl,_⟩|⟨aff,MR⟩
  ·rfl
  ·exact aQ hx (by decide)
  ·exact aQ hy (by decide)
  ·exact h.one i j x y (by assumption) (by assumption) hx hy he
def TI.new{N:Nat}(h:Pow N):TI (bj N ⟨0,0,0⟩) (λ_=>none) 0 0:=by
 refine⟨by rw[iF];exact h,?_,?_,?_,by omega,?_,?_,?_,?_⟩
 ·intro c hc;rw[List.eq_of_mem_replicate hc];exact .inl rfl
 ·rw[List.countP_replicate];rfl
 ·rw[List.countP_replicate];rfl
 ·intro i c hi hk;have:=List.eq_of_mem_replicate (cn hi);subst this;exact aQ hk (by decide)
 ·intro i c hi hk;have:=List.eq_of_mem_replicate (cn hi);subst this;exact aQ hk (by decide)
 ·intro k v hk;cases hk
 ·intro i j c d hi hj hk;have:=List.eq_of_mem_replicate (cn hi);subst this;exact aQ hk (by decide)
def Seen(cs:List Cell)(k d:Nat):Prop:=∀j,j<d->∃c:Cell,cs[(hh cs.length k+j)%cs.length]?=some c/\c.kind≠0/\ ¬(c.kind=1/\c.key=k)
def Seen.nf{cs:List Cell}{k d:Nat}(h:Seen cs k d):∀j,j<d->NF cs ((hh cs.length k+j)%cs.length):=λj hj=>by
 obtain⟨c,h1,h2,_⟩:=h j hj;exact⟨c,h1,h2⟩
def Seen.succ{cs:List Cell}{k d:Nat}{c:Cell}(h:Seen cs k d)(hc:cs[(hh cs.length k+d)%cs.length]?=some c)(h0:c.kind≠0)(h1: ¬(c.kind=1/\c.key=k)):Seen cs k (d+1):=λj hj=>by
 by_cases e:j=d
 ·subst e;exact⟨c,hc,h0,h1⟩
 ·exact h j (by omega)
def Seen.CS{cs:List Cell}{m:Nat->Option Int}{u lf k d:Nat}{c:Cell}(ht:TI cs m u lf)(h:Seen cs k d)(hd:d<cs.length)(hc:cs[(hh cs.length k+d)%cs.length]?=some c)(h0:c.kind=0):
 ∀(i:Nat)(c:Cell),cs[i]?=some c->c.kind=1->c.key≠k:=by
 intro i x hi hx he;obtain⟨d',h1,h2,h3⟩:=ht.run i x hi hx;rw[he] at h2 h3;by_cases e1:d'<d
 ·obtain⟨y,g1,g2,g3⟩:=h d' e1;rw[<-h2,hi] at g1;cases g1;exact g3 ⟨hx,he⟩
 ·by_cases e2:d<d'
  ·obtain⟨y,g1,g2⟩:=h3 d e2;rw[hc] at g1;cases g1;exact g2 h0
  ·have:d=d':=by omega
   subst this;rw[<-h2,hi] at hc;cases hc;rw[h0] at hx;cases hx
section
variable {y z:Cell} {x1 x2 x3 x4:Value}
instance:Wr [x1,x2,x3,x4] 0 (om y) (om y):=⟨rfl,aF _,zq y⟩
instance:Sub (om y) 0 2 (nm y.key):=⟨zz rfl rfl⟩
instance:Sub (om y) 0 4 (om y):=⟨rfl,λj v h=>by rw[aD];exact h⟩
end
def pr(t:Nat)(x:(Nat->Option Int)×Nat):HP:=
 So λq:OA×Nat×List Cell×Nat=>DQ (TI q.2.2.1 x.1 x.2 q.2.2.2) (sep (Sep.pt t [.l q.1 q.2.2.1.length q.2.1,.i (x.2:Int),.i (q.2.2.2:Int)]) (own q.1 q.2.2.1.length q.2.1 4 (q.2.2.1.flatMap om)))
section
variable {W:World} {L:LH} {K:VK} {X:WK} {t:Nat} {x:(Nat->Option Int)×Nat} {f:(Nat->Option Int)×Nat->LH}
def SO[i:Lc (pr t) L x f](h:∀b c cs lf R,TI cs x.1 x.2 lf->(∀b' c' vZ u' MM m' Y,TI vZ m' u' MM->T W (f (m',u')) Y->T W (Sep.pt t [.l b' vZ.length c',.i (u':Int),.i (MM:Int)]::own b' vZ.length c' 4 (vZ.flatMap om)::R) Y)->
 T W (Sep.pt t [.l b cs.length c,.i (x.2:Int),.i (lf:Int)]::own b cs.length c 4 (cs.flatMap om)::R) X):T W L X:=
 SR (P:=pr t) λR hc w hs=>by
  obtain⟨⟨b,c,cs,lf⟩,hs⟩:=hs.ex;obtain⟨ht,hs⟩:=hs.and;refine h b c cs lf R ht (λb' c' vZ u' MM m' Y Lt hy w h'=>hc (m',u') Y hy w ?_) w hs.split;exact St.qR (b',c',vZ,MM) (St.and_intro Lt (St.join h'))
def T.ae4{A B C:HP}{R:LH}(h:T W (A::B::C::R) X):T W (C::A::B::R) X:=T.perm h (iI (l₁:=[A,B])).symm
def Tf{k:Nat}(h:T W L (K (.u (spread k)))):T W L (uf (nm k) K):=by
 unfold uf
 repeat' first|apply ws;intros|apply wb|refine dJ (by decide) ?_
 apply T.fin (T.dp h)
 rfl
def Z6{N:Nat}(h1:1<=N)(h2:N<=1048576):IntKind.u64.wrap (aa.wrap ((N:Int) -1))=(N:Int) -1:=by
 rw[aX (by omega)];obtain⟨n,hn⟩:∃n:Nat,(N:Int) -1=n:=⟨N-1,by omega⟩;rw[hn];exact sm (by omega)
def Hq{N a d:Nat}(ha:a<N)(hd:d<N):((a+d)%N+N-a)%N=d:=by
 by_cases h:a+d<N
 ·rw[fD h,show a+d+N-a=N+d by omega,Nat.add_mod_left,fD hd]
 ·have:(a+d)%N=a+d-N:=by rw[Nat.mod_eq_sub_mod (by omega),fD (by omega)]
  rw[this,show a+d-N+N-a=d by omega,fD hd]
def Te{N a d:Nat}(hN:Pow N):de .u64 .and (IntKind.u64.wrap ((((a+d)%N:Nat):Int)+1)) ((N:Int) -1)=(((a+(d+1))%N:Nat):Int):=by
 have h1:=hN.le;have h2:=hN.ge;have h3:(a+d)%N<N:=Nat.mod_lt _ (by omega);rw[show(((a+d)%N:Nat):Int)+1=(((a+d)%N+1:Nat):Int) by omega,sm (by omega),Mv hN (by omega)]
 congr 1
 rw[Nat.mod_add_mod];rfl
def Jz{b:OA}{c u lf k:Nat}{cs:List Cell}{m:Nat->Option Int}{x1 x2:Value}{f:LV->LH}{g:HP->LH}[i:Lc (Sep.pt t) L [.l b cs.length c,x1,x2] f][j:vI b cs.length c L 4 (cs.flatMap om) g](ht:TI cs m u lf)
 (h1:∀(i:Nat)(y:Cell),cs[i]?=some y->y.kind=1->y.key=k->T W L (K (.tuple ⟨[.i (i:Int),.b true]⟩)))
 (h2:∀p:Nat,FR cs k p->T W L (K (.tuple ⟨[.i (p:Int),.b false]⟩))):T W L (dm (ah t) (nm k) K):=by
 have hN8:=ht.pow.ge;have hNl:=ht.pow.le;have hhl:=ads (N:=cs.length) (by omega) k;unfold dm
 repeat' first|apply ws;intros|apply wb|refine Tf ?_
 rename_i r1;intro w hs;rw[Z6 (by omega) hNl,Nl ht.pow];refine⟨λvs w=>∃(d:Nat)(put:Int),d<cs.length/\Seen cs k d/\(put= -1\/∃(dp:Nat)(z:Cell),dp<d/\put=(((hh cs.length k+dp)%cs.length:Nat):Int)/\cs[(hh cs.length k+dp)%cs.length]?=some z/\z.kind=2)/\
                           vs=[.p (some (ad r1 0)),.i 0,.b false,.u ((cs.length:Int) -1),.i put,.u (((hh cs.length k+d)%cs.length:Nat):Int)]/\St W w (Sep.pt r1 (nm k)::L),
  λvs _=>match vs with|[_,_,_,_,_,.int _ n]=>cs.length-(n.toNat+cs.length-hh cs.length k)%cs.length|_=>0,
  ⟨0,-1,by omega,λj hj=>by omega,.inl rfl,by rw[gK,fD hhl],hs⟩,?_⟩
 rintro a1 n1 b1 n2 put n4 w2 ⟨d,ain,hd,Lw,Rn,e,hs⟩;cases e
 refine T.at ?_ hs;have cj:(hh cs.length k+d)%cs.length<cs.length:=Nat.mod_lt _ (by omega);have hy:=aj cj;generalize cs[(hh cs.length k+d)%cs.length]=y at hy;have qe:y∈cs:=cn hy;have ewr:aa.wrap (((hh cs.length k+d)%cs.length:Nat):Int)=(((hh cs.length k+d)%cs.length:Nat):Int):=aX (by omega);apply ws;refine dT ⟨by omega,by omega⟩ λr hr=>?_;subst hr;rw[ak];apply ij sP hy;have next:∀(r2:Nat)(Tx:Int),y.kind≠0-> ¬(y.kind=1/\y.key=k)->(Tx=put\/Tx=(((hh cs.length k+d)%cs.length:Nat):Int)/\y.kind=2)->
                                                                                                                                                                                                                                                                                                                                                                 T W (Sep.pt r2 (om y)::Sep.pt r1 (nm k)::L) (λw4=>(∃(d':Nat)(put:Int),d'<cs.length/\Seen cs k d'/\(put= -1\/∃(dp:Nat)(z:Cell),dp<d'/\put=(((hh cs.length k+dp)%cs.length:Nat):Int)/\cs[(hh cs.length k+dp)%cs.length]?=some z/\z.kind=2)/\
                                                                                                                                                                                                                                                                                                                                                                 [Value.pointer (some (ad r1 0)),.i 0,.b false,.u ((cs.length:Int) -1),.i Tx,.u (((hh cs.length k+(d+1))%cs.length:Nat):Int)]=[.p (some (ad r1 0)),.i 0,.b false,.u ((cs.length:Int) -1),.i put,.u (((hh cs.length k+d')%cs.length:Nat):Int)]/\St W w4 (Sep.pt r1 (nm k)::L))/\
                                                                                                                                                                                                                                                                                                                                                                 cs.length-((((hh cs.length k+(d+1))%cs.length:Nat):Int).toNat+cs.length-hh cs.length k)%cs.length<cs.length-((((hh cs.length k+d)%cs.length:Nat):Int).toNat+cs.length-hh cs.length k)%cs.length):=by
  intro r2 Tx k0 k1 hp';have T1:=Lw.succ hy k0 k1;have ZE:d+1<cs.length:=by
   by_cases hc:d+1<cs.length
   ·exact hc
   ·exact aQ (λj hj=>T1.nf j (by omega)) λhh=>ht.free _ hh
  refine T.drop λw3 h3=>⟨⟨d+1,Tx,ZE,T1,?_,rfl,h3⟩,?_⟩
  ·rcases hp' with rfl|⟨rfl,h2k⟩
   ·exact Rn.imp id λ⟨dp,z,g1,g2,g3,g4⟩=>⟨dp,z,by omega,g2,g3,g4⟩
   ·exact .inr ⟨d,y,by omega,rfl,hy,h2k⟩
  ·rw[ak,ak,Hq hhl hd,Hq hhl ZE];omega
 apply ws;intros;rename_i r2;unfold dm.j1 dm.j2 dm.j3;simp only[Te ht.pow,ewr];apply db<;>intro g0
 ·have k0:y.kind=0:=by simpa using g0
  apply db<;>intro g1
  ·refine T.drop (T.drop (h2 _ ⟨⟨y,d,hy,by omega,hd,rfl,Lw.nf⟩,Lw.CS ht hd hy k0⟩))
  ·have g2: ¬put<0:=by simpa using g1
   apply ws;apply kL (by simpa using k0);rcases Rn with rfl|⟨dp,z,q1,rfl,q3,q4⟩
   ·omega
   ·refine T.drop (T.drop (h2 _ ⟨⟨z,dp,q3,by omega,by omega,rfl,λj hj=>Lw.nf j (by omega)⟩,Lw.CS ht hd hy k0⟩))
 ·have k0:y.kind≠0:=by simpa using g0
  apply ws;apply eO (by simpa using k0);apply ws;apply db<;>intro g1
  ·have k2:y.kind=2:=by simpa using g1
   apply db<;>intro g2
   ·exact next r2 _ k0 (by omega) (.inr ⟨rfl,k2⟩)
   ·apply ws;refine eO (by rw[k2];rfl) ?_;apply ws;exact next r2 put k0 (by omega) (.inl rfl)
  ·have k1:y.kind=1:=by
    have:=ht.kinds y qe;have:y.kind≠2:=by simpa using g1
    omega
   apply ws;refine kL (by rw[k1];rfl) ?_;apply ws;apply db<;>intro g2
   ·refine T.drop (T.drop (h1 _ y hy k1 (by simpa using g2)))
   ·exact next r2 put k0 (λhh=>by simp[hh.2] at g2) (.inl rfl)
def DB{k:Nat}[i:Lc (pr t) L x f](h:T W L (K (.tuple ⟨[.i ((x.1 k).getD 0),.b (x.1 k).isSome]⟩))):T W L (ir (ah t) (nm k) K):=by
 unfold ir;refine tN λr1=>eO rfl ?_;apply ws;refine SO (t:=t) λb c cs lf R ht hc=>?_;have close:=hc b c cs x.2 lf x.1;have hL:f (x.1,x.2)=L:=i.same;rw[<-hL] at h;refine Jz ht (λi y hy hk he=>?_) (λp hp=>?_)
 ·apply ws;have cj:=(av.1 hy).1;refine dT ⟨by omega,by omega⟩ λr hr=>?_;subst hr;rw[ak];apply SY;apply ES (r:=r) (j:=2) sP hy rfl;apply ws;have e:=ht.is i y hy hk;rw[he] at e;rw[e] at h;exact close _ ht (T.drop h)
 ·apply ws;rw[ht.CS hp.none_] at h;exact close _ ht (T.drop h)
def Vx{k:Nat}[i:Lc (pr t) L x f](hu:x.2<=1000)(h:(x.1 k).isSome=true->T W (f (wR x.1 k none,x.2-1)) (K (.b true)))(h0:x.1 k=none->T W L (K (.b false))):T W L (oF (ah t) (nm k) K):=by
 unfold oF;refine tN λr1=>eO rfl ?_;apply ws;refine SO (t:=t) λb c cs lf R ht hc=>?_;have hL:f (x.1,x.2)=L:=i.same;rw[<-hL] at h0;refine Jz ht (λi y hy hk he=>?_) (λp hp=>?_)
 ·apply ws;have cj:=(av.1 hy).1;refine dT ⟨by omega,by omega⟩ λr hr=>?_;subst hr;rw[ak];have hN:=ht.pow.le;have Lx:=ht.room;obtain⟨Lt,hu1⟩:=ht.drop hy hk;rw[he] at Lt;have e:=ht.is i y hy hk;rw[he] at e;apply dJ rfl;show T W _ (jU _ (om ⟨0,0,2⟩) _);apply q9 sP cj (zq _);apply ws;rw[aX (by omega),aX (by omega),show(x.2:Int) -1=((x.2-1:Nat):Int) by omega,show(lf:Int)+1=((lf+1:Nat):Int) by omega];have:=hc (ah r) c _ _ _ _ _ Lt (T.drop (h (by rw[e];rfl)));rw[iH] at this;exact this
 ·apply ws;exact hc _ _ _ _ _ _ _ ht (T.drop (h0 (ht.CS hp.none_)))
structure Part(cs:List Cell)(i:Nat)(m':Nat->Option Int)(u':Nat):Prop where
 toX:∀(k:Nat)(v:Int),m' k=some v->∃(j:Nat)(y:Cell),j<i/\cs[j]?=some y/\y.kind=1/\y.key=k/\y.at_=v
 from_:∀(j:Nat)(y:Cell),j<i->cs[j]?=some y->y.kind=1->m' y.key=some y.at_
 n:u'=(cs.take i).countP (λc:Cell=>c.kind=1)
def Part.same{cs:List Cell}{m m':Nat->Option Int}{u lf u':Nat}(ht:TI cs m u lf)(hp:Part cs cs.length m' u'):m'=m/\u'=u:=by
 constructor
 ·funext k
  cases hm:m' k with
  |some v=>
   obtain⟨j,y,h1,h2,h3,h4,h5⟩:=hp.toX k v hm;have:=ht.is j y h2 h3;rw[h4,h5] at this;exact this.symm
  |none=>
   cases hk:m k with
   |none=>rfl
   |some v=>
    obtain⟨j,y,h2,h3,h4⟩:=ht.has k v hk;have:=hp.from_ j y (av.1 h2).1 h2 h3;rw[h4,hm] at this;cases this
 ·rw[hp.n,aV,ht.used]
def yA(cs:List Cell)(p:Cell->Bool){i:Nat}{y:Cell}(hy:cs[i]?=some y):(cs.take (i+1)).countP p=(cs.take i).countP p+(if p y then 1 else 0):=by
 have cj:=(av.1 hy).1;rw[qA cj,List.countP_append];have:cs[i]=y:=by rw[aj cj] at hy;exact bE.inj hy
 rw[this,List.countP_singleton]
def abn{b:OA}{c u lf:Nat}{cs:List Cell}{m:Nat->Option Int}{R:LH}(ht:TI cs m u lf)(hu:u<=1000)
 (h:∀b' c' vZ,TI vZ m u 0->3* (u+1)<=vZ.length->T W (Sep.pt t [.l b' vZ.length c',.i (u:Int),.i 0]::own b' vZ.length c' 4 (vZ.flatMap om)::R) (K (.tuple ⟨[]⟩))):
 T W (Sep.pt t [.l b cs.length c,.i (u:Int),.i (lf:Int)]::own b cs.length c 4 (cs.flatMap om)::R) (qu (ah t) K):=by
 unfold qu;have hN8:=ht.pow.ge;have hNl:=ht.pow.le;apply ws;intro w hs;refine⟨λvs w=>∃n:Nat,Pow n/\n<=6* (u+1)+8/\vs=[.l b cs.length c,.i (n:Int)]/\St W w (Sep.pt t [.l b cs.length c,.i (u:Int),.i (lf:Int)]::own b cs.length c 4 (cs.flatMap om)::R),
  λvs _=>match vs with|[_,.int _ n]=>3* (u+1) -n.toNat|_=>0,⟨8,⟨3,by decide,by decide,rfl⟩,by omega,rfl,hs⟩,?_⟩
 rintro jJ iX jV n1 w2 ⟨n,hn,hnb,e,hs⟩;cases e
 refine T.at ?_ hs;have hn8:=hn.ge;apply ws;rw[aX (show-9223372036854775808<=(u:Int)+1/\(u:Int)+1<=9223372036854775807 by omega),aX (by omega)];apply fZ<;>intro h1
 ·have h1:(n:Int)<3* ((u:Int)+1):=h1;rw[aX (by omega)];refine λw3 h3=>⟨⟨n* 2,?_,by omega,by rw[show(n:Int)* 2=((n* 2:Nat):Int) by omega],h3⟩,?_⟩
  ·obtain⟨j,j1,j2,j3⟩:=hn;refine⟨j+1,by omega,?_,by rw[zx,j3]⟩;by_cases hj:j+1<=20
   ·exact hj
   ·have:j=20:=by omega
    subst this;have:n=1048576:=by rw[j3]
    omega
  ·show 3* (u+1) -((n:Int)* 2).toNat<3* (u+1) -(n:Int).toNat;omega
 have h1: ¬(n:Int)<3* ((u:Int)+1):=h1;refine IL ⟨by omega,by omega,by omega,by omega⟩ λr=>?_;rw[ak,rD (g:=om) (z:=⟨0,0,0⟩) (zs:=[.u 0,.u 0,.i 0,.int .u8 0]) rfl];show T W (own (ah r) n n 4 ((bj n (⟨0,0,0⟩:Cell)).flatMap om)::_) _;apply ws;intro w4 hs;refine⟨λvs w=>∃(i:Nat)(vZ:List Cell)(m':Nat->Option Int)(u':Nat),i<=cs.length/\vZ.length=n/\TI vZ m' u' 0/\Part cs i m' u'/\vs=[.l b cs.length c,.i (cs.length:Int),.i (i:Int)]/\
                                                                                                St W w (own (ah r) n n 4 (vZ.flatMap om)::Sep.pt t [.l (ah r) n n,.i (u:Int),.i 0]::own b cs.length c 4 (cs.flatMap om)::R),
  λvs _=>match vs with|[_,_,.int _ i]=>cs.length-i.toNat|_=>0,
  ⟨0,bj n ⟨0,0,0⟩,λ_=>none,0,by omega,iF,TI.new hn,⟨(λk v hh=>by cases hh),(λj y hj=>by omega),by simp⟩,rfl,hs⟩,?_⟩
 rintro vc rA u6 n3 n4 w5 ⟨i,vZ,m',u',hi,MQ,Lt,hp,e,hs⟩;cases e
 refine T.at ?_ hs;apply fZ<;>intro g1
 ·have cj:i<cs.length:=by omega
  have e5:=m9 i;have hy:=aj cj;generalize cs[i]=y at hy;have hut:u'+(if y.kind=1 then 1 else 0)<=u:=by
   have e1:=yA cs (λc:Cell=>c.kind=1) hy;have e2:(cs.take (i+1)).countP (λc:Cell=>c.kind=1)<=cs.countP (λc:Cell=>c.kind=1):=(List.take_sublist _ _).countP_le;rw[ht.used,e1,<-hp.n] at e2;simpa using e2
  refine dT ⟨by omega,by omega⟩ λrb hrb=>?_;subst hrb;rw[ak];apply ij sP hy;apply ws;intros;rw[e5];apply db<;>intro g2
  ·have k1:y.kind=1:=by simpa using g2
   rw[ai k1] at hut;apply ws;subst MQ;have oZ:m' y.key=none:=by
    cases hm:m' y.key with
    |none=>rfl
    |some v=>
     obtain⟨j,z,q1,q2,q3,q4,q5⟩:=hp.toX _ _ hm;have:=ht.one j i z y q2 hy q3 k1 q4;omega
   refine Jz Lt (λi2 z hz hk he=>?_) (λp Rt=>?_)
   ·have:=Lt.is i2 z hz hk;rw[he,oZ] at this;cases this
   apply ws;obtain⟨z,d,hz,hzk,_⟩:=Rt.place;have BG:=(av.1 hz).1;refine tj ⟨by omega,by omega⟩ ?_;rw[ak];apply ws;apply q9 sP BG (zq _);have N1:=Lt.put (v:=y.at_) Rt hz (by omega);have hz2:z.kind≠2:=λhh=>by
    have:=List.countP_eq_zero.1 Lt.left z (cn hz);simp[hh] at this
   rw[af hz2] at N1;have ey:(⟨y.key,y.at_,1⟩:Cell)=y:=by rw[<-k1]
   rw[ey] at N1;refine T.drop λw6 h6=>⟨⟨i+1,vZ.set p y,wR m' y.key (some y.at_),u'+1,cj,iH,N1,⟨?_,?_,?_⟩,rfl,h6⟩,dn (by omega)⟩
   ·intro k v hk;unfold wR at hk;by_cases ek:k=y.key
    ·rw[ai ek] at hk;cases hk;exact⟨i,y,by omega,hy,k1,ek.symm,rfl⟩
    ·rw[af ek] at hk;obtain⟨j,z,q1,q2⟩:=hp.toX k v hk;exact⟨j,z,by omega,q2⟩
   ·intro j z hj VI hzk;unfold wR;by_cases ek:z.key=y.key
    ·have:=ht.one j i z y VI hy hzk k1 ek;subst this;rw[hy] at VI;cases VI
     rw[ai rfl]
    ·rw[af ek];refine hp.from_ j z ?_ VI hzk;by_cases ej:j=i
     ·subst ej;rw[hy] at VI;cases VI;exact aQ rfl ek
     ·omega
   ·rw[yA cs _ hy,hp.n];simp[k1]
  ·have k1: ¬y.kind=1:=by simpa using g2
   refine T.drop λw6 h6=>⟨⟨i+1,vZ,m',u',cj,MQ,Lt,⟨?_,?_,?_⟩,rfl,h6⟩,dn (by omega)⟩
   ·intro k v hk;obtain⟨j,z,q1,q2⟩:=hp.toX k v hk;exact⟨j,z,by omega,q2⟩
   ·intro j z hj VI hzk;refine hp.from_ j z ?_ VI hzk;by_cases ej:j=i
    ·subst ej;rw[hy] at VI;cases VI;exact aQ hzk k1
    ·omega
   ·rw[yA cs _ hy,hp.n];simp[k1]
 ·have he:i=cs.length:=by omega
  subst he;obtain⟨rfl,rfl⟩:=hp.same ht;subst MQ;have:=h (ah r) vZ.length vZ Lt (by omega);exact λw hs=>this w ((hs.perm (bX.swap _ _ _)).focus (k:=2) rfl).drop
def K2{b:OA}{c u lf k:Nat}{v:Int}{cs:List Cell}{m:Nat->Option Int}{R:LH}{r1:Nat}{g:LV->LH}[i:Lc (Sep.pt r1) R (nm k) g](ht:TI cs m u lf)(hr:4* (u+lf+1)<=3* cs.length)(hk:m k=none)
 (h:∀b' c' vZ MM,TI vZ (wR m k (some v)) (u+1) MM->T W (Sep.pt t [.l b' vZ.length c',.i ((u+1:Nat):Int),.i (MM:Int)]::own b' vZ.length c' 4 (vZ.flatMap om)::R) (K (.b true))):
 T W (Sep.pt t [.l b cs.length c,.i (u:Int),.i (lf:Int)]::own b cs.length c 4 (cs.flatMap om)::R) (dV.j1 K r1 (ah t) v):=by
 unfold dV.j1;apply ws;refine Jz ht (λi2 z hz hkk he=>?_) (λp Rt=>?_)
 ·have:=ht.is i2 z hz hkk;rw[he,hk] at this;cases this
 obtain⟨z,d,hz,hzk,_⟩:=Rt.place;have BG:=(av.1 hz).1;have hN:=ht.pow.le;apply ws;refine dT ⟨by omega,by omega⟩ λr hr=>?_;subst hr;rw[ak];simp only[gY,aD];apply ES (r:=r) (j:=3) sP hz rfl;have N1:=ht.put (v:=v) Rt hz hr;have acK:∀MM:Nat,MM=(if z.kind=2 then lf-1 else lf)->T W (Sep.pt t [.l (ah r) cs.length c,.i (u:Int),.i (MM:Int)]::own (ah r) cs.length c 4 (cs.flatMap om)::R) (dV.j2 K (ah t) r1 (p:Int) v):=by
  intro MM hlf;unfold dV.j2;apply ws;refine tj ⟨by omega,by omega⟩ ?_;rw[ak];apply dJ rfl;show T W _ (jU _ (om ⟨k,v,1⟩) _);apply q9 sP BG (zq _);apply ws;have Lx:=ht.room;rw[aX (by omega),show(u:Int)+1=((u+1:Nat):Int) by omega];have:=h (ah r) c (cs.set p ⟨k,v,1⟩) MM (by rw[hlf];exact N1);rw[iH] at this;exact this
 have Lx:=ht.room;apply ws;apply db<;>intro g2
 ·have k2:z.kind=2:=by simpa using g2
  have h1:1<=lf:=by
   rw[<-ht.left];exact List.countP_pos_iff.2 ⟨z,cn hz,by simpa using k2⟩
  apply ws;rw[aX (by omega),show(lf:Int) -1=((lf-1:Nat):Int) by omega];exact acK (lf-1) (by rw[ai k2])
 ·have k2: ¬z.kind=2:=by simpa using g2
  exact acK lf (by rw[af k2])
def Qx{k:Nat}{v:Int}[i:Lc (pr t) L x f](hu:x.2<=1000)(hk:x.1 k=none)(h:T W (f (wR x.1 k (some v),x.2+1)) (K (.b true))):T W L (dV (ah t) (nm k) v K):=by
 refine SO (t:=t) λb c cs lf R ht hc=>?_;unfold dV;refine tN λr1=>eO rfl ?_;apply T.ae4;have hN:=ht.pow.le;have Lx:=ht.room;have fin:∀b' c' vZ MM,TI vZ (wR x.1 k (some v)) (x.2+1) MM->T W (Sep.pt t [.l b' vZ.length c',.i ((x.2+1:Nat):Int),.i (MM:Int)]::own b' vZ.length c' 4 (vZ.flatMap om)::Sep.pt r1 (nm k)::R) (K (.b true)):=
  λb' c' vZ MM Lt w hs=>hc _ _ _ _ _ _ _ Lt h w (hs.focus (k:=2) rfl).drop
 have hw1:aa.wrap ((x.2:Int)+lf)=(x.2:Int)+lf:=aX (by omega);have hw2:aa.wrap ((x.2:Int)+lf+1)=(x.2:Int)+lf+1:=aX (by omega);have hw3:aa.wrap (4* ((x.2:Int)+lf+1))=4* ((x.2:Int)+lf+1):=aX (by omega);have hw4:aa.wrap (3* (cs.length:Int))=3* (cs.length:Int):=aX (by omega);apply ws;rw[hw1,hw2,hw3,hw4];apply fZ<;>intro g
 ·refine abn ht hu λb' c' vZ Lt MQ=>?_;apply ws;exact K2 (lf:=0) Lt (by omega) hk fin
 ·have:=g;exact K2 ht (by omega) hk fin
def ZU(h:∀t,T W (pr t (λ_=>none,0)::L) (K (.p (ah t)))):T W L (wo K):=by
 unfold wo;refine IL ⟨by decide,by decide,by decide,by decide⟩ λr=>?_;rw[show((8:Int).toNat)=8 from rfl,rD (g:=om) (z:=⟨0,0,0⟩) (zs:=[.u 0,.u 0,.i 0,.int .u8 0]) rfl];apply ws;intros;rename_i r1;refine λw hs=>h r1 w ?_;exact St.qR (ah r,8,bj 8 ⟨0,0,0⟩,0) (St.and_intro (TI.new ⟨3,by decide,by decide,rfl⟩) (St.join hs))
end
section
variable {W:World} {L:LH} {K:VK} {X:WK} {α:Type} {r o:Nat} {pre post:LV} {g:α->LV} {e:Nat} {l:List α} {f:List α->LH}
def iR{e:Nat}(h:T W (own none 0 0 e []::L) X):T W L X:=λw hs=>h w (hs.push (rM e))
def kP{b:OA}{n c bytes r1:Nat}{zero:LV}{x:α}{ys:LV}{f:HP->LH}{f1:LV->LH}{K:OA->Nat->Nat->WK}[i:vI b n c L e (l.flatMap g) f][j:Lc (Sep.pt r1) L ys f1](hy:ys=g x)(hg:(g x).length=e)(hz:zero.length=e)
 (hb:(n+1)* bytes<=140737488355328)(hm:n+1<=9223372036854775807)(h1:∀v∈g x,v.oneCell'=true)(h:∀b' c',T W (f (own b' (n+1) c' e ((l++[x]).flatMap g))) (K b' (n+1) c')):T W L (iN e bytes zero b n c (ah r1) 1 K):=by
 refine Ta (ys:=ys) (by rw[hy];exact hg) hz hb (by rw[hy];exact h1) (λb' c'=>?_) hm;have:=h b' c';rw[gi] at this;simpa [hy] using this
def Fs{b:OA}{n c e i:Nat}{xs:LV}(hi:i<=n):∀h,own b n c e xs h->own b i c e (xs.take (i* e)) h:=λh=>by
 rintro⟨hl,h0|⟨r,sp,hb,vd,B4,hp⟩⟩
 ·obtain⟨rfl,rfl,rfl⟩:=h0;have:i=0:=by omega
  subst this;exact⟨by simp,.inl ⟨rfl,rfl,rfl⟩⟩
 ·have hie:i* e<=n* e:=iw e hi;refine⟨by rw[aC];omega,.inr ⟨r,xs.drop (i* e)++sp,hb,by omega,?_,?_⟩⟩
  ·rw[au,aR,B4,hl,Nat.sub_mul,Nat.sub_mul];have:n* e<=c* e:=iw e vd;omega
  ·rw[<-aH,dk];exact hp
def Ih{g:α->LV}(hg:∀x,(g x).length=e):∀(l:List α)(i:Nat),(l.flatMap g).take (i* e)=(l.take i).flatMap g
 |[],i=>by simp
 |x::l,0=>by simp
 |x::l,i+1=>by
  rw[iP,List.take_succ_cons,iP,<-Ih hg l i,show(i+1)* e=(g x).length+i* e by rw[hg,mn];omega,List.take_length_add_append]
def Ba{b:OA}{n c i:Nat}{f:HP->LH}[j:vI b n c L e (l.flatMap g) f](hg:∀x,(g x).length=e)(hi:i<=n)(h:T W (f (own b i c e ((l.take i).flatMap g))) X):T W L X:=λw hs=>by
 obtain⟨k,hk,e1⟩:=j.at_;apply h w;rw[e1,<-Ih hg];exact St.rH ((hs.focus hk).mono (Fs hi)) hk
def Ad{b:OA}{n c i:Nat}{K:OA->Nat->Nat->WK}(hi:i<=c)(h:T W L (K b i c)):T W L (rJ b n c e none (some (i:Int)) K):=by
 unfold rJ;refine dJ ⟨by omega,by omega⟩ ?_;dsimp only;rw[Y6,ak];exact h
def qv{b:OA}{n c:Nat}{f:HP->LH}{xs:LV}[j:vI b n c L e xs f](h:n<=c->xs.length=n* e->T W L X):T W L X:=λw hs=>by
 obtain⟨k,hk,_⟩:=j.at_;obtain⟨hl,h0|⟨r,sp,hb,vd,_⟩⟩:=hs.oI hk
 ·exact h (by omega) hl w hs
 ·exact h vd hl w hs
end
abbrev ou:=Int×Int
def pw(p:ou):LV:=[.i p.1,.i p.2]
def oH(p:ou):(pw p).length=2:=rfl
instance{p:ou}:Ln (pw p) 2:=⟨rfl⟩
instance{p:ou}:Gt (pw p) 1 (.i p.2):=⟨rfl⟩
def ur(p:ou):∀v∈pw p,v.oneCell'=true:=λv h=>by simp[pw] at h;rcases h with rfl|rfl<;>rfl
instance{x1 x2:Value}{p:ou}:Wr [x1,x2] 0 (pw p) (pw p):=⟨rfl,aF _,ur p⟩
def pos(s:Int):List ou->Nat
 |[]=>0
 |p::l=>if p.1<s then pos s l+1 else 0
def Ja(s:Int):∀l:List ou,pos s l<=l.length
 |[]=>aF _
 |p::l=>by unfold pos;split<;>simp;exact Ja s l
def sR(l:List ou):Prop:=l.Pairwise λa b=>a.1<b.1
def NI(s:Int):∀(l:List ou)(i:Nat),i<=l.length->(∀(j:Nat)(p:ou),j<i->l[j]?=some p->p.1<s)->(∀(j:Nat)(p:ou),i<=j->l[j]?=some p->s<=p.1)->i=pos s l
 |[],i,hi,_,_=>by simp at hi;subst hi;rfl
 |q::l,0,hi,h1,h2=>by
  unfold pos;rw[af];have:=h2 0 q (aF _) rfl;omega
 |q::l,i+1,hi,h1,h2=>by
  unfold pos;rw[ai (h1 0 q (by omega) rfl),<-NI s l i (by simpa using hi) (λj p hj hp=>h1 (j+1) p (by omega) (by simpa using hp)) (λj p hj hp=>h2 (j+1) p (by omega) (by simpa using hp))]
def half{i j:Nat}(h:i+j<4611686018427387904):aa.wrap (shr .u64 (IntKind.u64.wrap (aa.wrap ((i:Int)+j))) 1)=(((i+j)/2:Nat):Int):=by
 have e0:aa.wrap ((i:Int)+j)=((i+j:Nat):Int):=by rw[aX (by omega)];omega
 rw[e0,sm (by omega)];unfold shr;have e:min (1:Int).toNat IntKind.u64.bits=1:=rfl;rw[e,GI _ (by decide)];rw[aX (by omega)];omega
def BX(s:Int)(l:List ou)(i:Nat):Bool:=match l[i]? with|some p=>decide (s<=p.1)|none=>true
section
variable {W:World} {L:LH} {K:VK} {X:WK} {r o:Nat} {l:List ou}
def Vh{n:Nat}{v:Value}(P:Nat->Bool)(hn:n<1099511627776)(Zt:∀i j,i<=j->P i=true->P j=true)
 (adz:∀(i:Nat)(K:VK),i<n->T W L (K (.b (P i)))->T W L (wN [(N.fL,fL.u)] v [.i (i:Int)] K))
 (h:∀i:Nat,i<=n->(∀j,j<i->P j=false)->(∀j,i<=j->j<n->P j=true)->T W L (K (.i (i:Int)))):T W L (vg (n:Int) v K):=by
 unfold vg;intro w hs;refine⟨λvs w=>∃i j:Nat,i<=j/\j<=n/\(∀k,k<i->P k=false)/\(∀k,j<=k->k<n->P k=true)/\vs=[.i 0,.i (i:Int),.i (j:Int)]/\St W w L,
  λvs _=>match vs with|[_,.int _ i,.int _ j]=>j.toNat-i.toNat|_=>0,⟨0,n,aE _,aF _,(λk hk=>by omega),(λk h1 h2=>by omega),rfl,hs⟩,?_⟩
 rintro n2 n3 n4 w2 ⟨i,j,MS,hjn,hi,hj,e,hs⟩;cases e
 refine T.at ?_ hs;rw[half (by omega)];apply fZ<;>intro g
 ·have cj:i<j:=by omega
  refine dJ (by decide) (adz _ _ (by omega) ?_);refine sA (db (λg2=>?_) (λg2=>?_))
  ·have p0:P ((i+j)/2)=false:=by simpa using g2
   have e1:aa.wrap ((((i+j)/2:Nat):Int)+1)=(((i+j)/2+1:Nat):Int):=by rw[aX (by omega)];omega
   rw[e1];refine λw3 h3=>⟨⟨(i+j)/2+1,j,by omega,hjn,λk hk=>?_,hj,rfl,h3⟩,dn (by omega)⟩;cases hp:P k with
   |false=>rfl
   |true=>rw[Zt k ((i+j)/2) (by omega) hp] at p0;cases p0
  ·have p1:P ((i+j)/2)=true:=by simpa using g2
   refine λw3 h3=>⟨⟨i,(i+j)/2,by omega,by omega,hi,λk hk _=>Zt _ k hk p1,rfl,h3⟩,by show(((i+j)/2:Nat):Int).toNat-(i:Int).toNat<(j:Int).toNat-(i:Int).toNat;omega⟩
 ·have:i=j:=by omega
  subst this;exact h i hjn hi hj
def D0{s:Int}{cs:LV}{b:OA}{c:Nat}{f:LV->LH}{g:HP->LH}(hv:cs[o]?=some (.l b l.length c))(hr:sR l)(hl:l.length<1099511627776)[i:Lc (Sep.pt r) L cs f][j:vI b l.length c L 2 (l.flatMap pw) g](h:T W L (K (.i (pos s l:Int)))):T W L (l9 (some ⟨r,o,none⟩) s K):=by
 unfold l9
 repeat' first|apply ws;intros|apply wb|refine nF hv ?_
 rename_i r1 r2;refine Vh (BX s l) hl ?_ ?_ ?_
 ·intro i j MS hi;unfold BX at *;by_cases hj:j<l.length
  ·have u9:i<l.length:=by omega
   rw[aj u9] at hi;rw[aj hj];simp only[decide_eq_true_eq] at *;by_cases e:i=j
   ·subst e;exact hi
   ·have:=qj.1 hr i j u9 hj (by omega);omega
  ·rw[pU (by omega)]
 ·intro i K hi hK;show T W _ (fL (i:Int) (ad r1 0) (ad r2 0) K);unfold fL
  repeat' first|apply ws|apply wb|refine nF hv ?_
  refine dT ⟨by omega,by omega⟩ λrb hb=>?_;subst hb;rw[ak];refine Cc oH (aj hi) rfl ?_;apply ws;apply T.fin (T.dp hK);unfold BX;rw[aj hi]
 ·intro i hi h1 h2;apply ws;have e:i=pos s l:=NI s l i hi (λj p hj hp=>by
   have:=h1 j hj
   unfold BX at this
   rw[hp] at this
   simpa using this) (λj p hj hp=>by
   have:=h2 j hj (av.1 hp).1
   unfold BX at this
   rw[hp] at this
   simpa using this)
  subst e;exact T.drop (T.drop h)
def Pz{s:Int}:∀{l:List ou},(∀p∈l,p.1<s)->pos s l=l.length
 |[],_=>rfl
 |p::l,h=>by unfold pos;rw[ai (h p (by simp)),Pz λq hq=>h q (by simp[hq])];rfl
def IK{r o:Nat}{cs:LV}{v:Value}{u:Value}{f:LV->LH}[i:Lc (Sep.pt r) L cs f](hv:cs[o]?=some u)(h1:v.oneCell'=true)(h:T W (f (cs.set o v)) X):T W L (st ⟨r,o,none⟩ v X):=C3 (av.1 hv).1 h1 h
def tD{cs:LV}{o:Nat}{u v:Value}(hv:cs[o]?=some u):(cs.set o v)[o]?=some v:=by rw[cW,ai rfl,ai (av.1 hv).1]
def yB{b:OA}{n c i e:Nat}{K:OA->Nat->Nat->WK}(hi:i<=n)(h:T W L (K (ym b c i e) (n-i) (c-i))):T W L (rJ b n c e (some (i:Int)) none K):=by
 unfold rJ;refine dJ ⟨by omega,by omega⟩ ?_;rw[ak];exact h
def Qu(w:World)(e:Nat)(b:OA):Src w 0 e b []:=⟨by simp,λa ha j v hj=>by simp at hj⟩
def acs{e n m:Nat}{b b':OA}{K:Nat->WK}(hm:min m n=0)(h:T W L (K 0)):T W L (UJ e b n b' m K):=λw hs=>by
 unfold UJ;rw[hm];exact⟨[],Qu w e b',λ_=>rfl,λ_=>h w hs,λa _=>⟨⟨by simp,λj hj=>by simp at hj⟩,h w hs⟩⟩
def aao{b b':OA}{n c e bytes:Nat}{zero:LV}{K:OA->Nat->Nat->WK}{xs:LV}{f:HP->LH}[i:vI b n c L e xs f](h:T W L (K b n c)):T W L (iN e bytes zero b n c b' 0 K):=
 qv (b:=b) λvd _ w hs=>⟨[],Qu w e b',λ_=>rfl,λ_=>⟨λa _=>⟨⟨by simp,λj hj=>by simp at hj⟩,h w hs⟩,λ_=>h w hs⟩,λcj=>by omega⟩
section
variable {R:LH} {cs:LV} {b:OA} {c:Nat}
def aaO{s a:Int}(hv:cs[o]?=some (.l b l.length c))(hr:sR l)(hl:l.length<1099511627)(hs:∀p∈l,p.1<s)
 (h:∀b' c',T W (Sep.pt r (cs.set o (.l b' (l.length+1) c'))::own b' (l.length+1) c' 2 ((l++[(s,a)]).flatMap pw)::R) (K (.b true))):
 T W (Sep.pt r cs::own b l.length c 2 (l.flatMap pw)::R) (jx (some ⟨r,o,none⟩) s a K):=by
 unfold jx;apply yD;apply D0 hv hr (by omega);rw[Pz hs]
 repeat' first|apply ws|apply wb|refine nF hv ?_
 apply eO (by simp);unfold jx.j1
 repeat' first|apply ws;intros|apply wb|refine nF hv ?_
 refine kP (x:=((0:Int),(0:Int))) rfl rfl rfl (by omega) (by omega) (ur _) λb' c'=>?_
 repeat' first|apply ws|apply wb|first|refine IK hv rfl ?_|refine nF (tD hv) ?_
 have e1:aa.wrap ((l.length:Int)+1)=((l.length+1:Nat):Int):=by rw[aX (by omega)];omega
 rw[e1];apply yB (aF _)
 repeat' first|apply ws|apply wb|refine nF (tD hv) ?_
 apply yB (by omega);apply acs (by omega)
 repeat' first|apply ws|apply wb|first|refine yC (tD hv) ?_|refine nF (tD hv) ?_
 refine qv (b:=b') λvd hlen=>?_;refine dT ⟨by omega,by omega⟩ λrb hb=>?_;subst hb;rw[ak];apply dJ rfl;show T W _ (jU _ (pw (s,a)) _);apply q9 oH (by simp) (ur _);have:=h (ah rb) c';rw[List.set_append_right _ _ (aF _)];simpa using T.drop this
def W5{s a:Int}{l0:List ou}(hv:cs[o]?=some (.l b l.length c))(hr:sR l)(hl:l.length<1099511627)(hs:l=l0++[(s,a)])
 (h:∀b' c',T W (Sep.pt r (cs.set o (.l b' l0.length c'))::own b' l0.length c' 2 (l0.flatMap pw)::R) (K (.b true))):
 T W (Sep.pt r cs::own b l.length c 2 (l.flatMap pw)::R) (jB (some ⟨r,o,none⟩) s K):=by
 have hlen:l.length=l0.length+1:=by rw[hs];simp
 have hp:pos s l=l0.length:=by
  refine(NI s l l0.length (by omega) (λj p hj Zs=>?_) (λj p hj Zs=>?_)).symm
  ·have cj:=(av.1 Zs).1;have:=qj.1 hr j l0.length cj (by omega) hj;rw[aj cj] at Zs;rw[bE.inj Zs] at this;have e:l[l0.length]=(s,a):=by simp[hs]
   rw[e] at this;exact this
  ·have cj:=(av.1 Zs).1;have:j=l0.length:=by omega
   subst this;rw[hs] at Zs;simp at Zs;rw[<-Zs];exact sS _
 have hg:l[l0.length]?=some (s,a):=by rw[hs];simp
 unfold jB;apply yD;apply D0 hv hr (by omega);rw[hp]
 repeat' first|apply ws|apply wb|refine nF hv ?_
 refine eO (by simp;omega) ?_
 repeat' first|apply ws|apply wb|refine nF hv ?_
 refine dT ⟨by omega,by omega⟩ λrb hb=>?_;subst hb;rw[ak];apply Cc oH hg rfl;apply ws;unfold jB.j1;apply eO (by simp)
 repeat' first|apply ws|apply wb|refine nF hv ?_
 refine qv (b:=ah rb) λvd zS=>?_;apply Ad (by omega)
 repeat' first|apply ws|apply wb|refine nF hv ?_
 have e1:aa.wrap ((l0.length:Int)+1)=((l0.length+1:Nat):Int):=by rw[aX (by omega)];omega
 rw[e1];apply yB (by omega);rw[hlen] at hv;rw[hlen,jS];have et:l.take l0.length=l0:=by rw[hs];simp
 refine Ba (b:=ah rb) (i:=l0.length) oH (by omega) ?_;rw[et];apply aao (b:=ah rb)
 repeat' first|apply ws|apply wb|first|refine yC hv ?_|refine IK hv rfl ?_
 exact h _ _
def wa(toX:Int)(l:List ou):Nat:=if toX=0 then l.length else match l[pos toX l]? with|some p=>if p.1=toX then pos toX l+1 else pos toX l|none=>pos toX l
def We(toX:Int)(l:List ou):wa toX l<=l.length:=by
 unfold wa;have:=Ja toX l;split
 ·exact aF _
 ·split
  ·rename_i p hp;have:=(av.1 hp).1;split<;>omega
  ·omega
def qF(from_ toX:Int)(l:List ou):List ou:=(l.drop (pos from_ l)).take (wa toX l-pos from_ l)
def WI{m out:List ou}{i:Nat}(hl:m.length=out.length)(hm:∀j,j<out.length->m[j]?=if j<i\/out.length-1-j<i then out[out.length-1-j]? else out[j]?)(hi:out.length<=2* i+1):m=out.reverse:=by
 apply oz;intro j;by_cases hj:j<out.length
 ·rw[hm j hj,List.getElem?_reverse hj];by_cases h:j<i\/out.length-1-j<i
  ·rw[ai h]
  ·rw[af h];congr 1;omega
 ·rw[pU (by omega),pU (by simpa using hj)]
def TE{from_ toX:Int}{zo:Bool}{f:LV->LH}{g:HP->LH}(hv:cs[o]?=some (.l b l.length c))(hr:sR l)(hl:l.length<100000)[i:Lc (Sep.pt r) L cs f][j:vI b l.length c L 2 (l.flatMap pw) g]
 (h:∀b' c' out,out=(if zo then(qF from_ toX l).reverse else qF from_ toX l)->T W (own b' out.length c' 2 (out.flatMap pw)::L) (K (.l b' out.length c'))):T W L (gp (some ⟨r,o,none⟩) from_ toX zo K):=by
 unfold gp;apply yD
 repeat' first|apply ws|apply wb|refine nF hv ?_
 apply D0 hv hr (by omega)
 repeat' first|apply ws|apply wb|refine yC hv ?_
 have j1:T W L (gp.j1 K (pos from_ l:Int) (some ⟨r,o,none⟩) zo (wa toX l:Int)):=by
  have hul:=We toX l;unfold gp.j1;refine iR (e:=2) ?_;intro w hs;refine⟨λvs w=>∃(k:Nat)(out:List ou)(b':OA)(c':Nat),pos from_ l<=k/\(k<=wa toX l\/k=pos from_ l)/\out=(l.drop (pos from_ l)).take (k-pos from_ l)/\out.length=k-pos from_ l/\
   vs=[.l none 0 0,.i (k:Int),.i (wa toX l:Int),.l b' out.length c']/\St W w (own b' out.length c' 2 (out.flatMap pw)::L),
   λvs _=>match vs with|[_,.int _ k,.int _ n,_]=>n.toNat-k.toNat|_=>0,⟨pos from_ l,[],none,0,aF _,.inr rfl,by simp,by simp,rfl,hs⟩,?_⟩
  rintro jJ iX jV n5 n6 b' oD c' w2 ⟨k,out,b0,c0,VU,ux,yp,hol,e,hs⟩;cases e
  refine T.at ?_ hs;have Sj:=Ja from_ l;apply fZ<;>intro g1
  ·have cj:k<wa toX l:=by omega
   have e5:=m9 k;have hg:=aj (show k<l.length by omega);generalize l[k]=p at hg
   repeat' first|apply ws|apply wb|refine nF hv ?_
   refine dT ⟨by omega,by omega⟩ λrb hb=>?_;subst hb;rw[ak,e5];apply ij oH hg;apply ws;intros;refine kP (x:=p) rfl rfl rfl (by omega) (by omega) (ur _) λb2 c2=>?_;refine T.drop λw3 h3=>⟨⟨k+1,out++[p],b2,c2,by omega,.inl cj,?_,by simp;omega,by simp,by simpa using h3⟩,dn (by omega)⟩;rw[show k+1-pos from_ l=(k-pos from_ l)+1 by omega,ba,<-yp,lC,show pos from_ l+(k-pos from_ l)=k by omega,hg]
   rfl
  ·have iO:wa toX l<=k:=by omega
   have ac7:out=qF from_ toX l:=by
    rw[yp];unfold qF;rcases ux with h2|h2
    ·rw[show k=wa toX l by omega]
    ·rw[h2,jS,show wa toX l-pos from_ l=0 by omega]
   apply db<;>intro g2
   ·subst g2;intro w2 hs;refine⟨λvs w=>∃(i:Nat)(m:List ou),i<=out.length/\m.length=out.length/\(∀j,j<out.length->m[j]?=if j<i\/out.length-1-j<i then out[out.length-1-j]? else out[j]?)/\
     vs=[.l none 0 0,.l b' out.length c',.i (i:Int),.i ((out.length:Int) -1-i)]/\St W w (own b' out.length c' 2 (m.flatMap pw)::L),
     λvs _=>match vs with|[_,_,.int _ k,_]=>out.length-k.toNat|_=>0,⟨0,out,aE _,rfl,λj hj=>by simp,by rw[aX (by omega)];simp,hs⟩,?_⟩
    rintro sb6 Y5 Y7 Y8 Tg sc7 n7 n8 w5 ⟨i,m,hi,LD,hm,e,hs⟩;cases e
    refine T.at ?_ hs;apply fZ<;>intro g3
    ·have cj:(i:Int)<(out.length:Int) -1-i:=g3;obtain⟨k2,afm⟩:∃k2:Nat,k2=out.length-1-i:=⟨_,rfl⟩;have ek:(out.length:Int) -1-i=(k2:Int):=by omega
     have e5:=m9 i;have e6:aa.wrap ((k2:Int) -1)=(out.length:Int) -1-((i+1:Nat):Int):=by rw[aX (by omega)];omega
     have g4:=aj (show i<m.length by omega);have g5:=aj (show k2<m.length by omega);have g6:=hm i (by omega);have g7:=hm k2 (by omega);rw[af (by omega)] at g6;rw[af (by omega)] at g7;generalize m[i]=x at g4;generalize m[k2]=y at g5;rw[ek,e5,e6];apply ws;refine dT ⟨by omega,by omega⟩ λrb hb=>?_;subst hb;rw[ak];apply ij oH g5;refine tj ⟨by omega,by omega⟩ ?_;rw[ak];apply ij oH g4;refine tj ⟨by omega,by omega⟩ ?_;rw[ak];refine dJ rfl (q9 oH (by omega) (ur _) ?_);refine tj ⟨by omega,by omega⟩ ?_;rw[ak];refine dJ rfl (q9 oH (by simp;omega) (ur _) ?_);refine λw3 h3=>⟨⟨i+1,(m.set i y).set k2 x,by omega,by simp[LD],λj hj=>?_,rfl,h3⟩,dn (by omega)⟩;rw[cW,cW];by_cases q1:k2=j
     ·subst q1;rw[ai rfl,ai (by simp;omega),ai (by omega),show out.length-1-k2=i by omega,<-g6,g4]
     ·rw[af q1];by_cases q2:i=j
      ·subst q2;rw[ai rfl,ai (by omega),ai (by omega),<-afm,<-g7,g5]
      ·rw[af q2,hm j hj];by_cases q3:j<i\/out.length-1-j<i
       ·rw[ai q3,ai (by omega)]
       ·rw[af q3,af (by omega)]
    ·have aiw: ¬(i:Int)<(out.length:Int) -1-i:=g3;have:=WI LD hm (by omega);subst this;have:=h b' c' out.reverse (by rw[ai rfl,ac7]);rw[ju] at this;exact this
   ·subst g2;exact h b' c' out (by rw[af (by decide),ac7])
 apply db<;>intro g1
 ·have VJ:toX≠0:=by simpa using g1
  apply D0 hv hr (by omega);have hpt:=Ja toX l
  repeat' first|apply ws|apply wb|refine nF hv ?_
  unfold wa at j1;rw[af VJ] at j1;apply fZ<;>intro g2
  ·have cj:pos toX l<l.length:=by omega
   have hg:=aj cj;generalize l[pos toX l]=p at hg;have e5:aa.wrap ((pos toX l:Int)+1)=((pos toX l+1:Nat):Int):=by rw[aX (by omega)];omega
   rw[hg] at j1;dsimp only at j1
   repeat' first|apply ws|apply wb|refine nF hv ?_
   rw[e5];refine dT ⟨by omega,by omega⟩ λrb hb=>?_;subst hb;rw[ak];apply Cc oH hg rfl;apply ws;apply db<;>intro g3
   ·rw[ai (by simpa using g3)] at j1;exact j1
   ·rw[af (by simpa using g3)] at j1;exact j1
  ·have iO:l.length<=pos toX l:=by omega
   rw[pU iO] at j1;exact j1
 ·have VJ:toX=0:=by simpa using g1
  unfold wa at j1;rw[ai VJ] at j1;exact j1
end
end
structure Item where
 due:Int
 ay:Int
 id:Nat
def gO(x:Item):LV:=[.i x.due,.i x.ay]++nm x.id
def iZ(x:Item):(gO x).length=4:=rfl
instance{x:Item}:Ln (gO x) 4:=⟨rfl⟩
instance{x:Item}:Gt (gO x) 0 (.i x.due):=⟨rfl⟩
instance{x:Item}:Gt (gO x) 1 (.i x.ay):=⟨rfl⟩
def qw(x:Item):∀v∈gO x,v.oneCell'=true:=ph (λv h=>by simp at h;rcases h with rfl|rfl<;>rfl) (oJ _)
instance{x1 x2 x3 x4:Value}{p:Item}:Wr [x1,x2,x3,x4] 0 (gO p) (gO p):=⟨rfl,aF _,qw p⟩
instance{p:Item}:Sub (gO p) 0 4 (gO p):=⟨rfl,λj v h=>by rw[aD];exact h⟩
def bf(a b:Item):Prop:=a.due<b.due\/a.due=b.due/\a.ay<b.ay
instance(a b:Item):Decidable (bf a b):=by unfold bf;infer_instance
def Qm{a b:Item}(h:bf a b): ¬bf b a:=by unfold bf at *;omega
def Mn{a b c:Item}(h:bf a b)(g:bf b c):bf a c:=by unfold bf at *;omega
def FB{a b c:Item}(h: ¬bf a b)(g: ¬bf b c): ¬bf a c:=by unfold bf at *;omega
def TK{a b c:Item}(h: ¬bf a c)(g:bf b c): ¬bf a b:=λhh=>h (Mn hh g)
def Oy(a:Item): ¬bf a a:=by unfold bf;omega
def par(j:Nat):Nat:=(j-1)/2
def NB(h:List Item)(i j:Nat):Prop:=∀x y,h[i]?=some x->h[j]?=some y-> ¬bf x y
def ve(h:List Item):Prop:=∀j,0<j->NB h j (par j)
def HU(h:List Item)(i:Nat):Prop:=(∀j,0<j->j≠i->NB h j (par j))/\(∀j,0<j->par j=i->0<i->NB h j (par i))
def HD(h:List Item)(i:Nat):Prop:=(∀j,0<j->par j≠i->NB h j (par j))/\(∀j,0<j->par j=i->0<i->NB h j (par i))
def Kids(h:List Item)(i:Nat):Prop:=∀j,0<j->par j=i->NB h j i
def ve.hu{h:List Item}(hh:ve h)(i:Nat):HU h i:=by
 refine⟨λj h0 _=>hh j h0,λj h0 hp hi x y hx hy=>?_⟩;have cj:j<h.length:=(av.1 hx).1;have Rs:i<h.length:=by unfold par at hp;omega
 have a1:=hh j h0 x _ hx (by rw[hp];exact aj Rs);exact FB a1 (hh i hi _ y (aj Rs) hy)
def HU.heap{h:List Item}{i:Nat}(hu:HU h i)(hx:i=0\/NB h i (par i)):ve h:=λj h0=>by
 by_cases e:j=i
 ·subst e;rcases hx with hx|hx
  ·omega
  ·exact hx
 ·exact hu.1 j h0 e
def HD.heap{h:List Item}{i:Nat}(hd:HD h i)(hk:Kids h i):ve h:=λj h0=>by
 by_cases e:par j=i
 ·rw[e];exact hk j h0 e
 ·exact hd.1 j h0 e
def Wm(h:List Item)(i k:Nat)(x y:Item):List Item:=(h.set i y).set k x
def O8(h:List Item)(i k:Nat)(x y:Item):(Wm h i k x y).length=h.length:=by simp[Wm]
section
variable {h:List Item} {i k:Nat} {x y:Item}
def O9(hx:h[i]?=some x)(hy:h[k]?=some y)(T':i≠k)(j:Nat):(Wm h i k x y)[j]?=if j=i then some y else if j=k then some x else h[j]?:=by
 have l1:=(av.1 hx).1;have l2:=(av.1 hy).1;unfold Wm;rw[cW,cW];by_cases e1:k=j
 ·subst e1;rw[ai rfl,ai (by simpa using l2),af (by omega),ai rfl]
 ·rw[af e1];by_cases e2:i=j
  ·subst e2;rw[ai rfl,ai l1,ai rfl]
  ·rw[af e2,af (by omega),af (by omega)]
def y8:∀{h:List Item} {i:Nat} {x y:Item},h[i]?=some x->(x::h.set i y).Perm (y::h)
 |[],i,x,y,hx=>by simp at hx
 |a::h,0,x,y,hx=>by simp at hx;subst hx;exact bX.swap _ _ _
 |a::h,i+1,x,y,hx=>by
  have ih:=y8 (y:=y) (show h[i]?=some x by simpa using hx);rw[lA];exact(bX.swap _ _ _).trans ((ih.cons a).trans (bX.swap _ _ _))
def KA(hx:h[i]?=some x)(hy:h[k]?=some y)(T':i≠k):(Wm h i k x y).Perm h:=by
 have h1:=y8 (y:=y) hx;have hy2:(h.set i y)[k]?=some y:=by rw[cW,af T'];exact hy
 have h2:=y8 (y:=x) hy2;exact(List.perm_cons y).1 (h2.trans h1)
def HU.step(hu:HU h i)(hi:0<i)(hx:h[i]?=some x)(hy:h[par i]?=some y)(hb:bf x y):HU (Wm h i (par i) x y) (par i):=by
 have T':i≠par i:=by unfold par;omega
 have g:=O9 hx hy T'
 constructor
 ·intro j h0 hj a b ha qY;rw[g] at ha qY;by_cases e1:j=i
  ·subst e1;rw[ai rfl] at ha;cases ha
   rw[af (λh=>T' h.symm),ai rfl] at qY;cases qY
   exact Qm hb
  ·rw[af e1,af hj] at ha;by_cases e2:par j=i
   ·rw[ai e2] at qY;cases qY
    exact hu.2 j h0 e2 hi a y ha hy
   ·rw[af e2] at qY;by_cases e3:par j=par i
    ·rw[ai e3] at qY;cases qY
     exact TK (hu.1 j h0 e1 a y ha (by rw[e3];exact hy)) hb
    ·rw[af e3] at qY;exact hu.1 j h0 e1 a b ha qY
 ·intro j h0 hp MN a b ha qY;have n1:par (par i)≠i:=by unfold par;omega
  have n2:par (par i)≠par i:=by unfold par at *;omega
  rw[g] at ha qY;rw[af n1,af n2] at qY;have top:=hu.1 (par i) MN (λh=>T' h.symm) y b hy qY;by_cases e1:j=i
  ·subst e1;rw[ai rfl] at ha;cases ha
   exact top
  ·have n3:j≠par i:=by intro h;rw[h] at hp;exact n2 hp
   rw[af e1,af n3] at ha;exact FB (hu.1 j h0 e1 a y ha (by rw[hp];exact hy)) top
def HD.step(hd:HD h i)(hk:par k=i)(h0k:0<k)(hx:h[i]?=some x)(hy:h[k]?=some y)(hb:bf y x)(zD:∀j,0<j->par j=i->NB h j k):HD (Wm h i k x y) k:=by
 have T':i≠k:=by intro h;unfold par at hk;omega
 have g:=O9 hx hy T'
 constructor
 ·intro j h0 hj a b ha qY;rw[g] at ha qY;by_cases e1:j=i
  ·subst e1;rw[ai rfl] at ha;cases ha
   have n1:par j≠j:=by unfold par;omega
   rw[af n1,af hj] at qY;exact hd.2 k h0k hk h0 y b hy qY
  ·rw[af e1] at ha;by_cases e2:j=k
   ·subst e2;rw[ai rfl] at ha;cases ha
    rw[ai hk] at qY;cases qY
    exact Qm hb
   ·rw[af e2] at ha;by_cases e3:par j=i
    ·rw[ai e3] at qY;cases qY
     exact zD j h0 e3 a y ha hy
    ·rw[af e3,af hj] at qY;exact hd.1 j h0 e3 a b ha qY
 ·intro j h0 hp hk0 a b ha qY;rw[g] at ha qY;rw[ai hk] at qY;cases qY
  have n1:j≠i:=by intro h;unfold par at hp hk;omega
  have n2:j≠k:=by intro h;unfold par at hp;omega
  rw[af n1,af n2] at ha;exact hd.1 j h0 (by rw[hp];exact λh=>T' h.symm) a y ha (by rw[hp];exact hy)
def ve.first(hh:ve h)(hx:h[0]?=some x):∀y∈h,¬bf y x:=by
 have key:∀(n j:Nat),j<=n->∀y:Item,h[j]?=some y-> ¬bf y x:=by
  intro n
  induction n with
  |zero=>intro j hj y hy;have:j=0:=by omega
         subst this;rw[hx] at hy;cases hy;exact Oy x
  |succ n ih=>
   intro j hj y hy;by_cases h0:j=0
   ·subst h0;rw[hx] at hy;cases hy;exact Oy x
   ·have cj:=(av.1 hy).1;have hp:par j<h.length:=by unfold par;omega
    exact FB (hh j (by omega) y _ hy (aj hp)) (ih (par j) (by unfold par;omega) _ (aj hp))
 intro y hy;obtain⟨j,hj⟩:=qB hy;exact key j j (aF _) y hj
def OZ{z:Item}{n:Nat}(hh:ve h)(hl:h.length=n+1)(hi:i<n)(hz:h[n]?=some z):
 (i=0\/NB ((h.set i z).take n) i (par i))->HD ((h.set i z).take n) i:=by
 have g:∀j,((h.set i z).take n)[j]?=if j<n then(if j=i then some z else h[j]?) else none:=by
  intro j;rw[sj];by_cases h1:j<n
  ·rw[ai h1,ai h1,cW];by_cases h2:i=j
   ·subst h2;rw[ai rfl,ai (by omega),ai rfl]
   ·rw[af h2,af (by omega)]
  ·rw[af h1,af h1]
 have old:∀j a,j≠i->((h.set i z).take n)[j]?=some a->h[j]?=some a:=by
  intro j a hj ha;rw[g] at ha;rw[af hj] at ha;split at ha
  ·exact ha
  ·cases ha
 intro ht;refine⟨λj h0 hp a b ha hb=>?_,λj h0 hp ZB a b ha hb=>?_⟩
 ·by_cases e:j=i
  ·subst e;rcases ht with ht|ht
   ·omega
   ·exact ht a b ha hb
  ·exact hh j h0 a b (old j a e ha) (old _ b hp hb)
 ·have n1:j≠i:=by intro h;unfold par at hp;omega
  have n2:par i≠i:=by unfold par;omega
  exact(hh.hu i).2 j h0 hp ZB a b (old j a n1 ha) (old _ b n2 hb)
def Wg{z:Item}{n:Nat}(hh:ve h)(hl:h.length=n+1)(hi:i<n)(hz:h[n]?=some z)(h0i:0<i){y:Item}(hy:h[par i]?=some y)(hb:bf z y):
 HU ((h.set i z).take n) i/\Kids ((h.set i z).take n) i:=by
 have g:∀j,((h.set i z).take n)[j]?=if j<n then(if j=i then some z else h[j]?) else none:=by
  intro j;rw[sj];by_cases h1:j<n
  ·rw[ai h1,ai h1,cW];by_cases h2:i=j
   ·subst h2;rw[ai rfl,ai (by omega),ai rfl]
   ·rw[af h2,af (by omega)]
  ·rw[af h1,af h1]
 have old:∀j a,j≠i->((h.set i z).take n)[j]?=some a->h[j]?=some a:=by
  intro j a hj ha;rw[g] at ha;rw[af hj] at ha;split at ha
  ·exact ha
  ·cases ha
 have top:=(hh.hu i).2;have kids:Kids ((h.set i z).take n) i:=λj h0 hp a b ha qY=>by
  have n1:j≠i:=by intro h;unfold par at hp;omega
  rw[g,ai hi,ai rfl] at qY;cases qY
  exact TK (top j h0 hp h0i a y (old j a n1 ha) hy) hb
 refine⟨⟨λj h0 hj a b ha qY=>?_,λj h0 hp ZB a b ha qY=>?_⟩,kids⟩
 ·by_cases e:par j=i
  ·rw[e] at qY;exact kids j h0 e a b ha qY
  ·exact hh j h0 a b (old j a hj ha) (old _ b e qY)
 ·have n1:j≠i:=by intro h;unfold par at hp;omega
  have n2:par i≠i:=by unfold par;omega
  exact top j h0 hp ZB a b (old j a n1 ha) (old _ b n2 qY)
end
section
variable {W:World} {R:LH} {L:LH} {K:VK} {X:WK} {r o:Nat} {cs:LV} {b:OA} {c:Nat} {h:List Item}
def Mo{x y:Item}(hk:T W L (K (.b (decide (bf x y))))):T W L (rL (gO x) (gO y) K):=by
 unfold rL
 repeat' first|apply ws;intros|apply wb|apply db<;>intro h1
 all_goals apply T.fin (T.dp hk)
 ·have:=aS h1;rw[aw (show bf x y from .inl this)]
 ·rename_i h2;have h2:=bq h2;have h3:x.due=y.due:=by simpa using h1
  congr 1
  rw[decide_eq_decide];unfold bf;omega
 ·rename_i h2;have h2:=bq h2;have h3: ¬x.due=y.due:=by simpa using h1
  rw[aq (show ¬bf x y by unfold bf;omega)]
def LP{i:Nat}(h0:0<i)(h:i<1099511627776):aa.wrap ((aa.wrap ((i:Int) -1)).tdiv (2:Int))=((par i:Nat):Int):=by
 have e0:aa.wrap ((i:Int) -1)=((i-1:Nat):Int):=by rw[aX (by omega)];omega
 rw[e0];unfold par;have e1:((i-1:Nat):Int).tdiv 2=(((i-1)/2:Nat):Int):=by rw[Int.tdiv_eq_ediv_of_nonneg (by omega)];omega
 rw[e1,aX (by omega)]
def acg{i:Nat}(hv:cs[o]?=some (.l b h.length c))(hl:h.length<100000)(hi:i<h.length)(hu:HU h i)
 (hk:∀h',ve h'->h'.Perm h->T W (Sep.pt r cs::own b h.length c 4 (h'.flatMap gO)::R) (K (.tuple ⟨[]⟩))):
 T W (Sep.pt r cs::own b h.length c 4 (h.flatMap gO)::R) (jv (some ⟨r,o,none⟩) (i:Int) K):=by
 unfold jv;intro w hs;refine⟨λvs w=>∃(j:Nat)(m:List Item),j<h.length/\m.length=h.length/\m.Perm h/\HU m j/\vs=[.i (j:Int)]/\St W w (Sep.pt r cs::own b h.length c 4 (m.flatMap gO)::R),
  λvs _=>match vs with|[.int _ j]=>j.toNat|_=>0,⟨i,h,hi,rfl,bX.refl _,hu,rfl,hs⟩,?_⟩
 rintro n2 w2 ⟨j,m,hj,LD,hp,hum,e,hs⟩;cases e
 refine T.at ?_ hs;apply ws;apply fZ<;>intro g1
 ·have h0:0<j:=by omega
  have Sj:par j<m.length:=by unfold par;omega
  have gx:=aj (show j<m.length by omega);have gy:=aj Sj;generalize m[j]=x at gx;generalize m[par j]=y at gy;have jW:j≠par j:=by unfold par;omega
  simp only[LP h0 (by omega:j<1099511627776)]
  repeat' first|apply ws|apply wb|refine nF hv ?_
  refine dT ⟨by omega,by omega⟩ λrb hb=>?_;subst hb;rw[ak];apply ij iZ gx
  repeat' first|apply ws|apply wb|first|refine nF hv ?_|refine dJ (by decide) ?_
  refine tj ⟨by omega,by omega⟩ ?_;rw[ak];apply ij iZ gy
  repeat' first|apply ws|apply wb|first|refine Mo ?_|refine yC hv ?_
  unfold jv.j1;simp only[LP h0 (by omega:j<1099511627776)];apply fZ<;>intro g2
  ·have hb:=g2
   repeat' first|apply ws|apply wb|first|refine nF hv ?_|refine dJ (by decide) ?_
   refine tj ⟨by omega,by omega⟩ ?_;rw[ak];apply ij iZ gy
   repeat' first|apply ws|apply wb|first|refine nF hv ?_|refine dJ (by decide) ?_
   refine tj ⟨by omega,by omega⟩ ?_;rw[ak];apply ij iZ gx;refine tj ⟨by omega,by omega⟩ ?_;rw[ak];refine dJ rfl (q9 iZ (by omega) (qw _) ?_);refine tj ⟨by omega,by omega⟩ ?_;rw[ak];refine dJ rfl (q9 iZ (by simp;omega) (qw _) ?_);refine dJ (by decide) λw3 h3=>⟨⟨par j,Wm m j (par j) x y,by omega,by rw[O8];exact LD,(KA gx gy jW).trans hp,hum.step h0 gx gy hb,rfl,h3⟩,by show(par j:Int).toNat<(j:Int).toNat;unfold par;omega⟩
  ·refine hk m (hum.heap (.inr ?_)) hp;intro a b ha qY;rw[gx] at ha;rw[gy] at qY;cases ha;cases qY
   exact g2
 ·have h0:j=0:=by omega
  unfold jv.j1;apply sB;exact hk m (hum.heap (.inl h0)) hp
def abI{i:Nat}(hv:cs[o]?=some (.l b h.length c))(hl:h.length<100000)(hi:i<h.length)(hd:HD h i\/Kids h i)
 (hk:∀h',(ve h'\/h'=h/\Kids h i)->h'.Perm h->T W (Sep.pt r cs::own b h.length c 4 (h'.flatMap gO)::R) (K (.tuple ⟨[]⟩))):
 T W (Sep.pt r cs::own b h.length c 4 (h.flatMap gO)::R) (fG (some ⟨r,o,none⟩) (i:Int) K):=by
 unfold fG;intro w hs;refine⟨λvs w=>∃(j:Nat)(m:List Item),j<h.length/\m.length=h.length/\m.Perm h/\(HD m j\/m=h/\j=i/\Kids h i)/\vs=[.i (j:Int)]/\St W w (Sep.pt r cs::own b h.length c 4 (m.flatMap gO)::R),
  λvs _=>match vs with|[.int _ j]=>h.length-j.toNat|_=>0,⟨i,h,hi,rfl,bX.refl _,hd.imp id λhh=>⟨rfl,rfl,hh⟩,rfl,hs⟩,?_⟩
 rintro n2 w2 ⟨j,m,hj,LD,hp,Jr,e,hs⟩;cases e
 have e1:aa.wrap (aa.wrap (2* (j:Int))+1)=((2* j+1:Nat):Int):=by
  have:aa.wrap (2* (j:Int))=2* j:=aX (by omega);rw[this,aX (by omega)];omega
 have e2:aa.wrap (aa.wrap (2* (j:Int))+2)=((2* j+2:Nat):Int):=by
  have:aa.wrap (2* (j:Int))=2* j:=aX (by omega);rw[this,aX (by omega)];omega
 rw[e1];refine⟨λvs w=>∃(k d:Nat),2* j+1<=d/\d<=2* j+3/\(k=j\/0<k/\par k=j/\∃x y,m[k]?=some x/\m[j]?=some y/\bf x y)/\(∀q,0<q->par q=j->q<d->NB m q k)/\k<h.length/\
    vs=[.i (j:Int),.i (k:Int),.i (d:Int)]/\St W w (Sep.pt r cs::own b h.length c 4 (m.flatMap gO)::R),
  mq 2 (2* j+3),⟨j,2* j+1,aF _,by omega,.inl rfl,(λq h0 hq cj=>by unfold par at hq;omega),hj,rfl,hs⟩,?_⟩
 rintro n5 n6 n7 w5 ⟨k,d,hd1,VY,hkk,zD,hkl,e,hs⟩;cases e
 refine T.at ?_ hs;rw[e2];have out:(∀q,0<q->par q=j->NB m q k)->T W (Sep.pt r cs::own b h.length c 4 (m.flatMap gO)::R) (fG.j1 K (some ⟨r,o,none⟩) (λvs w=>∃(j:Nat)(m:List Item),j<h.length/\m.length=h.length/\m.Perm h/\(HD m j\/m=h/\j=i/\Kids h i)/\vs=[.i (j:Int)]/\St W w (Sep.pt r cs::own b h.length c 4 (m.flatMap gO)::R))
                      (λvs _=>match vs with|[.int _ j]=>h.length-j.toNat|_=>0) (j:Int) w2 (j:Int) (k:Int)):=by
  intro fx;unfold fG.j1;apply db<;>intro g1
  ·have:k=j:=by have:(k:Int)=j:=by simpa using g1
                omega
   subst this;refine hk m ?_ hp;rcases Jr with Jr|⟨hm,LJ,hki⟩
   ·exact .inl (Jr.heap fx)
   ·exact .inr ⟨hm,hki⟩
  ·have jW:k≠j:=by
    intro hh;subst hh;simp at g1
   obtain⟨h0,Xx,x,y,gx,gy,hb⟩:=hkk.resolve_left jW;have afw:HD m j:=by
    rcases Jr with Jr|⟨hm,LJ,hki⟩
    ·exact Jr
    ·subst hm;subst LJ;exact aQ hb (hki k h0 Xx x y gx gy)
   repeat' first|apply ws|apply wb|refine nF hv ?_
   refine dT ⟨by omega,by omega⟩ λrb qY=>?_;subst qY;rw[ak];apply ij iZ gx
   repeat' first|apply ws|apply wb|refine nF hv ?_
   refine tj ⟨by omega,by omega⟩ ?_;rw[ak];apply ij iZ gy;refine tj ⟨by omega,by omega⟩ ?_;rw[ak];refine dJ rfl (q9 iZ (by omega) (qw _) ?_);refine tj ⟨by omega,by omega⟩ ?_;rw[ak];refine dJ rfl (q9 iZ (by simp;omega) (qw _) ?_);refine λw3 h3=>⟨⟨k,Wm m j k y x,hkl,by rw[O8];exact LD,(KA gy gx (λhh=>jW hh.symm)).trans hp,.inl (afw.step Xx h0 gy gx hb fx),rfl,h3⟩,by show h.length-(k:Int).toNat<h.length-(j:Int).toNat;unfold par at Xx;omega⟩
 apply fZ<;>intro g1
 ·have hle:d<=2* j+2:=by omega
  repeat' first|apply ws|apply wb|refine nF hv ?_
  unfold fG.j2;apply fZ<;>intro g2
  ·have cj:d<h.length:=by omega
   have gx:=aj (show d<m.length by omega);have gy:=aj (show k<m.length by omega);generalize m[d]=x at gx;generalize hmk:m[k]'(by omega)=y at gy;have hpd:par d=j:=by unfold par;omega
   have e5:=m9 d
   repeat' first|apply ws|apply wb|refine nF hv ?_
   refine dT ⟨by omega,by omega⟩ λrb hb=>?_;subst hb;rw[ak];apply ij iZ gx
   repeat' first|apply ws|apply wb|refine nF hv ?_
   refine tj ⟨by omega,by omega⟩ ?_;rw[ak];apply ij iZ gy
   repeat' first|apply ws|apply wb|first|refine Mo ?_|refine yC hv ?_
   rw[e5];apply fZ<;>intro g3
   ·have hb:=g3;refine λw3 h3=>⟨⟨d,d+1,by omega,by omega,.inr ⟨by omega,hpd,x,?_⟩,λq h0 hq xx a b' ha wE=>?_,cj,rfl,h3⟩,dn (by omega)⟩
    ·rcases hkk with rfl|⟨h0,Xx,x1,y1,q1,q2,q3⟩
     ·exact⟨y,gx,gy,hb⟩
     ·rw[gy] at q1;cases q1
      exact⟨y1,gx,q2,Mn hb q3⟩
    ·rw[gx] at wE;cases wE
     by_cases hqd:q=d
     ·subst hqd;rw[gx] at ha;cases ha;exact Oy x
     ·exact TK (zD q h0 hq (by omega) a y ha gy) hb
   ·have hb:=g3;refine λw3 h3=>⟨⟨k,d+1,by omega,by omega,hkk,λq h0 hq xx=>?_,hkl,rfl,h3⟩,dn (by omega)⟩;by_cases hqd:q=d
    ·subst hqd;intro a b' ha wE;rw[gx] at ha;rw[gy] at wE;cases ha;cases wE;exact hb
    ·exact zD q h0 hq (by omega)
  ·have iO:h.length<=d:=by omega
   refine out λq h0 hq a b' ha wE=>?_;have:=(av.1 ha).1;exact zD q h0 hq (by omega) a b' ha wE
 ·have P8:2* j+2<d:=by omega
  unfold fG.j2;apply sB;exact out λq h0 hq=>zD q h0 hq (by unfold par at hq;omega)
def Q3{z x:Item}{i n:Nat}(hl:h.length=n+1)(hi:i<n)(hz:h[n]?=some z)(hx:h[i]?=some x):(x::(h.set i z).take n).Perm h:=by
 have h1:=y8 (y:=z) hx;have h2:h.set i z=(h.set i z).take n++[z]:=by
  conv=>lhs;rw[<-dk n (h.set i z)]
  congr 1
  have:(h.set i z)[n]?=some z:=by rw[cW,af (by omega)];exact hz
  rw[gZ (by simp;omega),fB (by simp;omega)];rw[aj (by simp;omega)] at this;rw[bE.inj this]
 rw[h2] at h1;have h3:(x::((h.set i z).take n++[z])).Perm (z::x::(h.set i z).take n):=((bt (l₁:=(h.set i z).take n) (l₂:=[z])).cons x).trans (bX.swap _ _ _);exact(List.perm_cons z).1 (h3.symm.trans h1)
def aah{α:Type}{r n c e o:Nat}{l:List α}{x:α}{g:α->LV}{f:HP->LH}[i:vI (ah r) n c L e (l.flatMap g) f](hf:∀x,(g x).length=e)(hx:l[o]?=some x)(h:T W L X):T W L (kp ⟨r,o* e,none⟩ (g x) X):=λw hs=>by
 obtain⟨k,hk,_⟩:=i.at_;exact⟨zw hs hk (qP hf l o x hx),h w hs⟩
def T.WH{A B C D:HP}(h:T W (A::B::C::D::R) X):T W (C::D::A::B::R) X:=T.perm h (bt (l₁:=[C,D]) (l₂:=[A,B])|>.append_right R)
def T.Za{A B C:HP}(h:T W (A::B::C::R) X):T W (C::A::B::R) X:=T.perm h (bt (l₁:=[C]) (l₂:=[A,B])|>.append_right R)
def T.Zb{A B C:HP}(h:T W (A::B::C::R) X):T W (B::C::A::R) X:=T.perm h (bt (l₁:=[B,C]) (l₂:=[A])|>.append_right R)
def aad{i:Nat}{x:Item}(hv:cs[o]?=some (.l b h.length c))(hl:h.length<100000)(hx:h[i]?=some x)(hh:ve h)
 (hk:∀h',ve h'->(x::h').Perm h->T W (Sep.pt r (cs.set o (.l b h'.length c))::own b h'.length c 4 (h'.flatMap gO)::R) (K (.agg ⟨gO x⟩))):
 T W (Sep.pt r cs::own b h.length c 4 (h.flatMap gO)::R) (qt (some ⟨r,o,none⟩) (i:Int) K):=by
 have hi:=(av.1 hx).1;obtain⟨n,hn⟩:∃n,h.length=n+1:=⟨h.length-1,by omega⟩;have gz:=aj (show n<h.length by omega);generalize h[n]=z at gz;have e1:aa.wrap ((h.length:Int) -1)=(n:Int):=by rw[aX (by omega)];omega
 unfold qt
 repeat' first|apply ws;intros|apply wb|refine nF hv ?_
 refine dT ⟨by omega,by omega⟩ λrb hb=>?_;subst hb;rw[ak];apply ij iZ hx
 repeat' first|apply ws;intros|apply wb|first|refine nF hv ?_|refine yC hv ?_
 apply aah iZ hx
 repeat' first|apply ws|apply wb|first|refine nF hv ?_|refine yC hv ?_
 rw[e1];refine tj ⟨by omega,by omega⟩ ?_;rw[ak];apply ij iZ gz;refine tj ⟨by omega,by omega⟩ ?_;rw[ak];refine dJ rfl (q9 iZ hi (qw _) ?_)
 repeat' first|apply ws|apply wb|first|refine nF hv ?_|refine yC hv ?_
 refine qv (b:=ah rb) λvd _=>?_;refine Ad (by omega) ?_;refine Ba (b:=ah rb) (i:=n) iZ (by omega) ?_
 repeat' first|apply ws|apply wb|refine IK hv rfl ?_
 have Dh:=tD (v:=.l (ah rb) n c) hv;apply fZ<;>intro g1
 ·have cj:i<n:=by omega
  have hp:=Q3 hn cj gz hx;have LD:((h.set i z).take n).length=n:=by simp;omega
  rename_i r1 r2;apply T.WH;have key:HD ((h.set i z).take n) i\/HU ((h.set i z).take n) i/\Kids ((h.set i z).take n) i:=by
   by_cases h0:i=0
   ·exact .inl (OZ hh hn cj gz (.inl h0))
   ·have Sj:par i<h.length:=by unfold par;omega
    have gy:=aj Sj;generalize h[par i]=y at gy;by_cases hb:bf z y
    ·exact .inr (Wg hh hn cj gz (by omega) gy hb)
    ·refine .inl (OZ hh hn cj gz (.inr ?_));intro a b' ha qY;have MN:par i≠i:=by unfold par;omega
     have hpn:par i<n:=by unfold par;omega
     rw[sj,ai cj,cW,ai rfl,ai hi] at ha;rw[sj,ai hpn,cW,af (λh=>MN h.symm),gy] at qY;cases ha;cases qY;exact hb
  generalize (h.set i z).take n=m at hp LD key;subst LD;refine abI Dh (by omega) cj (key.imp id (·.2)) λm2 Jn Jk=>?_;apply ws;have XC:=Jk.length_eq;rw[<-XC];have NZ:=tD (v:=.l (ah rb) m2.length c) hv;have hu2:HU m2 i:=by
   rcases Jn with Jn|⟨rfl,hki⟩
   ·exact Jn.hu i
   ·rcases key with k1|k1
    ·exact(k1.heap hki).hu i
    ·exact k1.1
  refine acg NZ (by omega) (by omega) hu2 λm3 hm3 hp3=>?_;apply ws;have VR:=hp3.length_eq;have:=hk m3 hm3 ((hp3.trans Jk).cons x|>.trans hp);rw[VR] at this;exact T.WH (T.drop (T.drop this))
 ·have hie:i=n:=by omega
  subst hie;apply ws;have hm:(h.set i z).take i=h.take i:=by rw[List.take_set_of_le (aF _)]
  rw[hm];have LD:(h.take i).length=i:=by simp;omega
  have hh':ve (h.take i):=λj h0 a b' ha qY=>by
   rw[sj] at ha qY;split at ha
   ·split at qY
    ·exact hh j h0 a b' ha qY
    ·cases qY
   ·cases ha
  have:=hk (h.take i) hh' (by
   conv=>rhs;rw[<-dk i h]
   have:h.drop i=[x]:=by
    rw[gZ hi,fB (by omega)]
    rw[aj hi] at hx
    rw[bE.inj hx]
   rw[this]
   exact bt (l₁:=[x]) (l₂:=h.take i))
  rw[LD] at this;exact T.dp this
def aaK{x:Item}(hv:cs[o]?=some (.l b h.length c))(hl:h.length<10000)(hh:ve h)
 (hk:∀b' c' h',ve h'->h'.Perm (h++[x])->T W (Sep.pt r (cs.set o (.l b' h'.length c'))::own b' h'.length c' 4 (h'.flatMap gO)::R) (K (.tuple ⟨[]⟩))):
 T W (Sep.pt r cs::own b h.length c 4 (h.flatMap gO)::R) (l7 (some ⟨r,o,none⟩) (gO x) K):=by
 unfold l7;refine tN λr1=>aal ?_
 repeat' first|apply ws;intros|apply wb|first|refine nF hv ?_|refine yC hv ?_
 refine kP (x:=x) (by simp) rfl rfl (by omega) (by omega) (qw _) λb' c'=>?_
 repeat' first|apply ws|apply wb|first|refine IK hv rfl ?_|refine nF (tD hv) ?_
 rename_i r2;have e1:aa.wrap (((h.length+1:Nat):Int) -1)=(h.length:Int):=by rw[aX (by omega)];omega
 rw[e1];apply T.WH;have hu:HU (h++[x]) h.length:=by
  refine⟨λj h0 hj a b' ha qY=>?_,λj h0 hp hi a b' ha qY=>?_⟩
  ·have cj:=(av.1 ha).1;simp at cj;rw[cO (by omega)] at ha;rw[cO (by unfold par;omega)] at qY;exact hh j h0 a b' ha qY
  ·have cj:=(av.1 ha).1;simp at cj;unfold par at hp;omega
 have Dh:=tD (v:=.l b' (h.length+1) c') hv;have MQ:(h++[x]).length=h.length+1:=by simp
 rw[<-MQ] at Dh⊢;refine acg Dh (by omega) (by simp) hu λm hm hp=>?_;apply ws;have:=hk b' c' m hm hp;rw[hp.length_eq] at this;exact T.WH (T.drop (T.drop this))
def WY{s:Int}(hv:cs[o]?=some (.l b h.length c))(hl:h.length<10000)(hh:ve h)
 (h1:∀x m,x.ay=s->ve m->(x::m).Perm h->T W (Sep.pt r (cs.set o (.l b m.length c))::own b m.length c 4 (m.flatMap gO)::R) (K (.b true)))
 (h0:(∀x∈h,x.ay≠s)->T W (Sep.pt r cs::own b h.length c 4 (h.flatMap gO)::R) (K (.b false))):
 T W (Sep.pt r cs::own b h.length c 4 (h.flatMap gO)::R) (mK (some ⟨r,o,none⟩) s K):=by
 unfold mK;apply yD
 repeat' first|apply ws|apply wb|refine nF hv ?_
 intro w hs;refine⟨λvs w=>∃(i:Nat),i<=h.length/\(∀j x,j<i->h[j]?=some x->x.ay≠s)/\vs=[.b false,.l b h.length c,.i (h.length:Int),.i (i:Int)]/\St W w (Sep.pt r cs::own b h.length c 4 (h.flatMap gO)::R),
  mq 3 h.length,⟨0,aE _,(λj x hj=>by omega),rfl,hs⟩,?_⟩
 rintro b1 jJ iX jV n2 n3 w2 ⟨i,hi,Jm,e,hs⟩;cases e
 refine T.at ?_ hs;apply fZ<;>intro g1
 ·have cj:i<h.length:=by omega
  have gx:=aj cj;generalize h[i]=x at gx;have e5:=m9 i;refine dT ⟨by omega,by omega⟩ λrb hb=>?_;subst hb;rw[ak];apply ij iZ gx;apply ws;intros;rename_i r1;rw[e5];apply db<;>intro g2
  ·apply T.Za;refine aad hv (by omega) gx hh λm hm hp=>?_;apply ws;refine T.Zb (T.drop ?_);exact h1 x m (by simpa using g2) hm hp
  ·refine T.drop λw3 h3=>⟨⟨i+1,cj,λj y hj hy=>?_,rfl,h3⟩,dn (by omega)⟩;by_cases LJ:j=i
   ·subst LJ;rw[gx] at hy;cases hy;simpa using g2
   ·exact Jm j y (by omega) hy
 ·have iO:i=h.length:=by omega
  refine h0 λx hx=>?_;obtain⟨j,hj⟩:=qB hx;exact Jm j x (by have:=(av.1 hj).1;omega) hj
end
class V8{α β:Type}(P:α->HP)(Q:β->HP)(L:LH)(x:outParam α)(y:outParam β)(F:outParam (α->β->LH)):Prop where
 at_:∃R:LH,L.Perm (P x::Q y::R)/\∀x' y',(F x' y').Perm (P x'::Q y'::R)
section
variable {α β:Type} {P:α->HP} {Q:β->HP} {L:LH} {x:α} {y:β}
def Lc.perm{f:α->LH}(h:Lc P L x f):∃R:LH,L.Perm (P x::R)/\∀x',(f x').Perm (P x'::R):=by
 obtain⟨k,h1,h2⟩:=h.at_;exact⟨L.eraseIdx k,ta h1,λy=>by rw[h2];exact(set_perm h1).symm⟩
instance(priority:=low) V8.tail{A:HP}{F:α->β->LH}[h:V8 P Q L x y F]:V8 P Q (A::L) x y (λa b=>A::F a b):=by
 obtain⟨R,h1,h2⟩:=h.at_;exact⟨A::R,(h1.cons A).trans ((bX.swap _ _ _).trans ((bX.swap _ _ _).cons _)),λa b=>((h2 a b).cons A).trans ((bX.swap _ _ _).trans ((bX.swap _ _ _).cons _))⟩
instance V8.aik{f:α->LH}[h:Lc P L x f]:V8 P Q (Q y::L) x y (λa b=>Q b::f a):=by
 obtain⟨R,h1,h2⟩:=h.perm;exact⟨R,(h1.cons _).trans (bX.swap _ _ _),λa b=>((h2 a).cons _).trans (bX.swap _ _ _)⟩
def DV{W:World}{X:WK}{F:α->β->LH}[i:V8 P Q L x y F](h:∀R,(∀M a b Y,T W (M++F a b) Y->T W (M++P a::Q b::R) Y)->T W (P x::Q y::R) X):T W L X:=by
 obtain⟨R,h1,h2⟩:=i.at_;exact T.perm (h R λM a b Y hy=>T.perm hy ((h2 a b).symm.append_left M)) h1
end
def St.sF{W w:World}:∀(M R:LH),St W w (va M::R)->St W w (M++R)
 |[],R,h=>h.drop
 |A::M,R,h=>(St.sF M (A::R) (h.split.perm (bX.swap _ _ _))).perm iI
def St.ra{W w:World}:∀(M R:LH),St W w (M++R)->St W w (va M::R)
 |[],R,h=>h.push trivial
 |A::M,R,h=>St.join ((St.ra M (A::R) (h.perm iI.symm)).perm (bX.swap _ _ _))
structure Core where
 la:Nat
 lk:Nat
 ti:Nat
 tn:Nat
 vs:LV
 dK:List ou
 ends:List Item
 clock:Int
 ay:Int
def jq(q:Core)(b1:OA)(c1:Nat)(b2:OA)(c2:Nat)(b3:OA)(n3 c3:Nat):LV:=
 [.l b1 q.vs.length c1,.p (some (ad q.la 0)),.p (some (ad q.lk 0)),.p (some (ad q.ti 0)),.p (some (ad q.tn 0)),.l b2 q.dK.length c2,.l b3 n3 c3,.i q.clock,.i q.ay]
def coreS(p:Nat)(q:Core)(b1:OA)(c1:Nat)(b2:OA)(c2:Nat)(b3:OA)(c3:Nat)(h:List Item):LH:=
 [Sep.pt p (jq q b1 c1 b2 c2 b3 h.length c3),own b1 q.vs.length c1 1 q.vs,own b2 q.dK.length c2 2 (q.dK.flatMap pw),own b3 h.length c3 4 (h.flatMap gO)]
def gW(p:Nat)(q:Core):HP:=
 So λz:(OA×Nat)×(OA×Nat)×(OA×Nat)×List Item=>DQ (ve z.2.2.2/\z.2.2.2.Perm q.ends) (va (coreS p q z.1.1 z.1.2 z.2.1.1 z.2.1.2 z.2.2.1.1 z.2.2.1.2 z.2.2.2))
def y4(q:Core)(o:Nat):Option Value:=match o with
 |1=>some (.p (some (ad q.la 0)))
 |2=>some (.p (some (ad q.lk 0)))
 |3=>some (.p (some (ad q.ti 0)))
 |4=>some (.p (some (ad q.tn 0)))
 |7=>some (.i q.clock)
 |8=>some (.i q.ay)
 |_=>none
section
variable {W:World} {L:LH} {K:VK} {X:WK} {p o:Nat} {q:Core} {f:Core->LH} {v:Value}
def Ir{R:LH}(hx:∀b1 c1 b2 c2 b3 c3 h,ve h->h.Perm q.ends->T W (Sep.pt p (jq q b1 c1 b2 c2 b3 h.length c3)::own b1 q.vs.length c1 1 q.vs::own b2 q.dK.length c2 2 (q.dK.flatMap pw)::own b3 h.length c3 4 (h.flatMap gO)::R) X):T W (gW p q::R) X:=λw hs=>by
 obtain⟨⟨⟨b1,c1⟩,⟨b2,c2⟩,⟨b3,c3⟩,hp⟩,hs⟩:=hs.ex;obtain⟨⟨h1,h2⟩,hs⟩:=hs.and;exact hx b1 c1 b2 c2 b3 c3 hp h1 h2 w (St.sF _ _ hs)
def AJ{R:LH}{b1:OA}{c1:Nat}{b2:OA}{c2:Nat}{b3:OA}{c3:Nat}{h:List Item}(h1:ve h)(h2:h.Perm q.ends)(hx:T W (gW p q::R) X):T W (Sep.pt p (jq q b1 c1 b2 c2 b3 h.length c3)::own b1 q.vs.length c1 1 q.vs::own b2 q.dK.length c2 2 (q.dK.flatMap pw)::own b3 h.length c3 4 (h.flatMap gO)::R) X:=λw hs=>
 hx w (St.qR ((b1,c1),(b2,c2),(b3,c3),h) (St.and_intro ⟨h1,h2⟩ (St.ra _ _ hs)))
def DU{α:Type}{P:α->HP}{a:α}{f:α->LH}[i:Lc P L a f](h:∀R,(∀M y Y,T W (M++f y) Y->T W (M++P y::R) Y)->T W (P a::R) X):T W L X:=by
 obtain⟨R,h1,h2⟩:=i.perm;exact T.perm (h R λM y Y hy=>T.perm hy ((h2 y).symm.append_left M)) h1
def T.IX{R:LH}{A B C:HP}(h:T W (A::C::B::R) X):T W (A::B::C::R) X:=T.perm h ((bX.swap _ _ _).cons _)
def T.Nt{R:LH}{A B C D:HP}(h:T W (A::D::B::C::R) X):T W (A::B::C::D::R) X:=T.perm h ((bt (l₁:=[B,C]) (l₂:=[D])|>.append_right R).cons _)
def T.E5{R:LH}{A B C D:HP}(h:T W (A::B::C::D::R) X):T W (A::D::B::C::R) X:=T.perm h ((bt (l₁:=[D]) (l₂:=[B,C])|>.append_right R).cons _)
def qE[i:Lc (gW p) L q f](hx:∀b1 c1 b2 c2 b3 c3 h R,ve h->h.Perm q.ends->
 (∀M q' b1 c1 b2 c2 b3 c3 h Y,ve h->h.Perm q'.ends->T W (M++f q') Y->T W (M++Sep.pt p (jq q' b1 c1 b2 c2 b3 h.length c3)::own b1 q'.vs.length c1 1 q'.vs::own b2 q'.dK.length c2 2 (q'.dK.flatMap pw)::own b3 h.length c3 4 (h.flatMap gO)::R) Y)->T W (Sep.pt p (jq q b1 c1 b2 c2 b3 h.length c3)::own b1 q.vs.length c1 1 q.vs::own b2 q.dK.length c2 2 (q.dK.flatMap pw)::own b3 h.length c3 4 (h.flatMap gO)::R) X):T W L X:=
 DU (P:=gW p) λR hc=>Ir λb1 c1 b2 c2 b3 c3 h h1 h2=>hx b1 c1 b2 c2 b3 c3 h R h1 h2 λM q' b1 c1 b2 c2 b3 c3 h Y g1 g2 hy=>
  T.perm (AJ (R:=M++R) g1 g2 (T.perm (hc M q' Y hy) (iI.symm))) (by
   have:=bt (l₁:=M) (l₂:=[Sep.pt p (jq q' b1 c1 b2 c2 b3 h.length c3),own b1 q'.vs.length c1 1 q'.vs,own b2 q'.dK.length c2 2 (q'.dK.flatMap pw),own b3 h.length c3 4 (h.flatMap gO)])|>.append_right R
   simpa using this)
def BS{b1:OA}{c1:Nat}{b2:OA}{c2:Nat}{b3:OA}{c3 n:Nat}(hv:y4 q o=some v):(jq q b1 c1 b2 c2 b3 n c3)[o]?=some v:=by
 unfold y4 at hv;split at hv<;>first|exact hv|cases hv
def acu[i:Lc (gW p) L q f](hv:y4 q o=some v)(h:T W L (K v)):T W L (ld ⟨p,o,none⟩ K):=by
 have hL:f q=L:=i.same;refine qE (p:=p) λb1 c1 b2 c2 b3 c3 hp R h1 h2 hc=>?_;apply nF (r:=p) (BS hv);exact hc [] q _ _ _ _ _ _ _ _ h1 h2 (by rw[hL];exact h)
def acv[i:Lc (gW p) L q f](hv:y4 q o=some v)(h:T W L X):T W L (kp ⟨p,o,none⟩ [v] X):=by
 have hL:f q=L:=i.same;refine qE (p:=p) λb1 c1 b2 c2 b3 c3 hp R h1 h2 hc=>?_;apply yC (r:=p) (BS hv);exact hc [] q _ _ _ _ _ _ _ _ h1 h2 (by rw[hL];exact h)
class Gc(q:Core)(o:Nat)(v:outParam Value):Prop where
 is:y4 q o=some v
instance:Gc q 1 (.p (some (ad q.la 0))):=⟨rfl⟩
instance:Gc q 2 (.p (some (ad q.lk 0))):=⟨rfl⟩
instance:Gc q 3 (.p (some (ad q.ti 0))):=⟨rfl⟩
instance:Gc q 4 (.p (some (ad q.tn 0))):=⟨rfl⟩
instance:Gc q 7 (.i q.clock):=⟨rfl⟩
instance:Gc q 8 (.i q.ay):=⟨rfl⟩
instance[i:Lc (gW p) L q f][g:Gc q o v]:Lv L p o v:=⟨λh=>acu (i:=i) g.is h,λh=>acv (i:=i) g.is h⟩
def Nc[i:Lc (gW p) L q f]{t:Int}(h:T W (f {q with clock:=t}) X):T W L (st ⟨p,7,none⟩ (.i t) X):=by
 refine qE (p:=p) λb1 c1 b2 c2 b3 c3 hp R h1 h2 hc=>?_;unfold jq;apply ws;exact hc [] {q with clock:=t} _ _ _ _ _ _ _ _ h1 h2 h
def Nb[i:Lc (gW p) L q f]{t:Int}(h:T W (f {q with ay:=t}) X):T W L (st ⟨p,8,none⟩ (.i t) X):=by
 refine qE (p:=p) λb1 c1 b2 c2 b3 c3 hp R h1 h2 hc=>?_;unfold jq;apply ws;exact hc [] {q with ay:=t} _ _ _ _ _ _ _ _ h1 h2 h
def vX[i:Lc (gW p) L q f](hl:q.vs.length<1000000)(h1v:v.oneCell'=true)(hcv:fA v=[v])(h:T W (f {q with vs:=q.vs++[v]}) (K (.tuple ⟨[]⟩))):T W L (iz (ah p) v K):=by
 refine qE (p:=p) λb1 c1 b2 c2 b3 c3 hp R h1 h2 hc=>?_;unfold iz jq;rw[hcv];apply ws;intros;refine Ta (ys:=[v]) (n:=q.vs.length) (bytes:=8) rfl rfl (by omega) (λu hu=>by simp at hu;rw[hu];exact h1v) (λb' c'=>?_) (by omega);apply ws;have:=hc [] {q with vs:=q.vs++[v]} b' c' b2 c2 b3 c3 hp _ h1 h2 h;unfold jq at this;simp only[au,pT] at this;exact T.drop this
def ab0[i:Lc (gW p) L q f](h:T W L (K (.i (q.vs.length:Int)))):T W L (sT (ah p) K):=by
 have hL:f q=L:=i.same;refine qE (p:=p) λb1 c1 b2 c2 b3 c3 hp R h1 h2 hc=>?_;unfold sT jq;apply ws;exact hc [] q _ _ _ _ _ _ _ _ h1 h2 (by rw[hL];exact h)
def Qi[i:Lc (gW p) L q f]{s a:Int}(hr:sR q.dK)(hl:q.dK.length<1099511627)(hs:∀x∈q.dK,x.1<s)(h:T W (f {q with dK:=q.dK++[(s,a)]}) (K (.b true))):T W L (jx (some ⟨p,5,none⟩) s a K):=by
 refine qE (p:=p) λb1 c1 b2 c2 b3 c3 hp R h1 h2 hc=>?_;apply T.IX;refine aaO rfl hr hl hs λb' c'=>?_;apply T.IX;have:=hc [] {q with dK:=q.dK++[(s,a)]} b1 c1 b' c' b3 c3 hp _ h1 h2 h;simp only[jq,au,pT] at this;exact this
def UL[i:Lc (gW p) L q f]{s a:Int}{l0:List ou}(hr:sR q.dK)(hl:q.dK.length<1099511627)(hs:q.dK=l0++[(s,a)])(h:T W (f {q with dK:=l0}) (K (.b true))):T W L (jB (some ⟨p,5,none⟩) s K):=by
 refine qE (p:=p) λb1 c1 b2 c2 b3 c3 hp R h1 h2 hc=>?_;apply T.IX;refine W5 rfl hr hl hs λb' c'=>?_;apply T.IX;exact hc [] {q with dK:=l0} b1 c1 b' c' b3 c3 hp _ h1 h2 h
def RQ[i:Lc (gW p) L q f]{from_ toX:Int}{zo:Bool}(hr:sR q.dK)(hl:q.dK.length<100000)
 (h:∀b' c' out,out=(if zo then(qF from_ toX q.dK).reverse else qF from_ toX q.dK)->T W (own b' out.length c' 2 (out.flatMap pw)::L) (K (.l b' out.length c'))):T W L (gp (some ⟨p,5,none⟩) from_ toX zo K):=by
 have hL:f q=L:=i.same;refine qE (p:=p) λb1 c1 b2 c2 b3 c3 hp R h1 h2 hc=>?_;refine TE (b:=b2) (c:=c2) rfl hr hl λb' c' out ho=>?_;exact hc [_] q b1 c1 b2 c2 b3 c3 hp _ h1 h2 (by rw[hL];exact h b' c' out ho)
def JN[i:Lc (gW p) L q f]{x:Item}{e':List Item}(hl:q.ends.length<10000)(he:e'.Perm (q.ends++[x]))(h:T W (f {q with ends:=e'}) (K (.tuple ⟨[]⟩))):T W L (l7 (some ⟨p,6,none⟩) (gO x) K):=by
 refine qE (p:=p) λb1 c1 b2 c2 b3 c3 hp R h1 h2 hc=>?_;apply T.Nt;refine aaK rfl (by rw[h2.length_eq];exact hl) h1 λb' c' h' g1 g2=>?_;apply T.E5;exact hc [] {q with ends:=e'} b1 c1 b2 c2 b' c' h' _ g1 (g2.trans ((h2.append_right _).trans he.symm)) h
def Ma[i:Lc (gW p) L q f]{s:Int}(hl:q.ends.length<10000)
 (h1:∀x e',x.ay=s->(x::e').Perm q.ends->T W (f {q with ends:=e'}) (K (.b true)))(h0:(∀x∈q.ends,x.ay≠s)->T W L (K (.b false))):T W L (mK (some ⟨p,6,none⟩) s K):=by
 have hL:f q=L:=i.same;rw[<-hL] at h0;refine qE (p:=p) λb1 c1 b2 c2 b3 c3 hp R g1 g2 hc=>?_;apply T.Nt;refine WY rfl (by rw[g2.length_eq];exact hl) g1 (λx m hx hm hpm=>?_) (λJm=>?_)
 ·apply T.E5;exact hc [] {q with ends:=m} b1 c1 b2 c2 b3 c3 m _ hm (bX.refl _) (h1 x m hx (hpm.trans g2))
 ·apply T.E5;exact hc [] q b1 c1 b2 c2 b3 c3 hp _ g1 g2 (h0 λx hx=>Jm x (g2.mem_iff.2 hx))
end
def jR(a:bN):(aO a).length=14:=rfl
def wx(k:cr):(bM k).length=33:=rfl
section
variable {x1 x2 x3 x4 x5 x6 x7 x8 x9 EC EB EA Ez ID M5 M4 YP YO Z5 Z4 Z3 Z2 Z1 Z0 ZZ ZY ZX ZW x29 x30 x31 x32 x33:Value} {k k':cr} {i:Int} {m t:cx}
def zK:cr:=⟨zT,zT,0⟩
instance:Wr [x1,x2,x3,x4,x5,x6,x7,x8,x9,EC,EB,EA,Ez,ID,M5,M4,YP,YO,Z5,Z4,Z3,Z2,Z1,Z0,ZZ,ZY,ZX,ZW,x29,x30,x31,x32,x33] 0 (bM k) (bM k):=⟨rfl,aF _,mW k⟩
instance:Wr (bM k) 0 (bM k') (bM k'):=⟨rfl,aF _,mW k'⟩
instance:Wr [x1,x2,x3,x4,x5,x6,x7,x8,x9,EC,EB,EA,Ez,ID,M5,M4,YP,YO,Z5,Z4,Z3,Z2,Z1,Z0,ZZ,ZY,ZX,ZW,x29,x30,x31,x32,x33] 0 [.u 0,.u 0,.u 0,.u 0,.u 0,.u 0,.u 0,.u 0,.u 0,.u 0,.i 0,.i 0,.i 0,.i 0,.i 0,.i 0,.u 0,.u 0,.u 0,.u 0,.u 0,.u 0,.u 0,.u 0,.u 0,.u 0,.i 0,.i 0,.i 0,.i 0,.i 0,.i 0,.i 0] (bM zK):=⟨rfl,aF _,mW zK⟩
instance:Wr (bM k) 32 [.i i] (bM {k with fate:=i}):=⟨rfl,by show 33<=33;decide,λv h=>by simp at h;subst h;rfl⟩
instance:Wr (bM k) 30 [.i i] (bM {k with move:={k.move with ay:=i}}):=⟨rfl,by show 31<=33;decide,λv h=>by simp at h;subst h;rfl⟩
instance:Wr (bM k) 31 [.i i] (bM {k with move:={k.move with jO:=i}}):=⟨rfl,by show 32<=33;decide,λv h=>by simp at h;subst h;rfl⟩
instance:Sub (bM k) 16 2 (nm k.move.id):=⟨zz rfl rfl⟩
instance:Wr [x1,x2,x3,x4,x5,x6,x7,x8,x9,EC,EB,EA,Ez,ID,M5,M4,YP,YO,Z5,Z4,Z3,Z2,Z1,Z0,ZZ,ZY,ZX,ZW,x29,x30,x31,x32,x33] 0 (aM m++(aM t++[.i i])) (bM ⟨m,t,i⟩):=⟨rfl,aF _,mW ⟨m,t,i⟩⟩
end
class V7(M L:LH):Prop where
 is:M.Sublist L
instance{L:LH}:V7 L L:=⟨bl.refl _⟩
instance(priority:=low){M L:LH}{A:HP}[h:V7 M L]:V7 M (A::L):=⟨h.is.cons A⟩
instance{M L:LH}{A:HP}[h:V7 M L]:V7 (A::M) (A::L):=⟨h.is.cons_cons A⟩
instance{R L:LH}[h:V7 R L]:V7 ([]++R) L:=⟨h.is⟩
instance{M R L:LH}{A:HP}[h:V7 (A::(M++R)) L]:V7 (A::M++R) L:=⟨h.is⟩
def pX{M L:LH}[h:V7 M L]:M.Sublist L:=h.is
def T.sub{W:World}{L M:LH}{X:WK}(h:T W M X)(s:M.Sublist L):T W L X:=by
 obtain⟨D,hD⟩:=s.exists_perm_append;have key:∀(D:LH),T W (D++M) X:=λD=>by
  induction D with
  |nil=>exact h
  |cons A D ih=>exact T.drop ih
 exact T.perm (key D) (hD.trans bt)
def sw{α:Type}(g:α->LV)(e l:Nat)(x:Nat×List α):HP:=
 So λz:OA×Nat=>va [Sep.pt l [.l z.1 x.2.length z.2,.p (some (ad x.1 0))],own z.1 x.2.length z.2 e (x.2.flatMap g)]
def rI{W:World}{L:LH}{α:Type}{b b':OA}{n c m c1 e bytes:Nat}{zero:LV}{l0 l1:List α}{g:α->LV}{f f':HP->LH}{K:OA->Nat->Nat->WK}[i:vI b n c L e (l0.flatMap g) f][j:vI b' m c1 L e (l1.flatMap g) f'](hg:∀x,(g x).length=e)(hz:zero.length=e)
 (hb:(n+m)* bytes<=140737488355328/\n+m<=9223372036854775807)(h1:∀x,∀v∈g x,v.oneCell'=true)(h:∀b2 c2,T W (f (own b2 (n+m) c2 e ((l0++l1).flatMap g))) (K b2 (n+m) c2)):T W L (iN e bytes zero b n c b' m K):=λw hs=>by
 obtain⟨k,hk,e1⟩:=i.at_;obtain⟨k2,ux,_⟩:=j.at_;obtain⟨Ax,oZ⟩:=Qt (m:=m) hs ux;refine uD hs hk Ax oZ hz hb.1 hb.2 (λv hv=>?_) λb2 c2 w' h'=>h b2 c2 w' (by rw[e1,gi];exact h');obtain⟨x,_,hx⟩:=List.mem_flatMap.1 hv;exact h1 x v hx
section
variable {W:World} {L R:LH} {K:VK} {X:WK} {α:Type} {g:α->LV} {e l p:Nat} {items:List α} {f:Nat×List α->LH}
def rO(h:∀b c,T W (Sep.pt l [.l b items.length c,.p (some (ad p 0))]::own b items.length c e (items.flatMap g)::R) X):T W (sw g e l (p,items)::R) X:=λw hs=>by
 obtain⟨⟨b,c⟩,hs⟩:=hs.ex;exact h b c w (St.sF _ _ hs)
def uu{b:OA}{n c:Nat}(hn:n=items.length)(h:T W (sw g e l (p,items)::R) X):T W (Sep.pt l [.l b n c,.p (some (ad p 0))]::own b n c e (items.flatMap g)::R) X:=λw hs=>by
 subst hn;exact h w (St.qR (b,c) (St.ra _ _ hs))
def xm{M:LH}{b:OA}{n c:Nat}(hn:n=items.length)(h:T W (M++sw g e l (p,items)::R) X):T W (M++Sep.pt l [.l b n c,.p (some (ad p 0))]::own b n c e (items.flatMap g)::R) X:=
 T.perm (uu (g:=g) (e:=e) (l:=l) (p:=p) (R:=M++R) hn (T.perm h iI.symm)) (by
  have:=bt (l₁:=M) (l₂:=[Sep.pt l [.l b n c,.p (some (ad p 0))],own b n c e (items.flatMap g)])|>.append_right R
  simpa using this)
def Hk[i:Lc (sw g e l) L (p,items) f](h:∀b c R,(∀M b' n' c' FJ Y,n'=FJ.length->T W (M++f (p,FJ)) Y->T W (M++Sep.pt l [.l b' n' c',.p (some (ad p 0))]::own b' n' c' e (FJ.flatMap g)::R) Y)->
 T W (Sep.pt l [.l b items.length c,.p (some (ad p 0))]::own b items.length c e (items.flatMap g)::R) X):T W L X:=
 DU (P:=sw g e l) λR hc=>rO λb c=>h b c R λM b' n' c' FJ Y hn hy=>
  T.perm (uu (g:=g) (e:=e) (l:=l) (p:=p) (R:=M++R) hn (T.perm (hc M _ Y hy) iI.symm)) (by
   have:=bt (l₁:=M) (l₂:=[Sep.pt l [.l b' n' c',.p (some (ad p 0))],own b' n' c' e (FJ.flatMap g)])|>.append_right R
   simpa using this)
end
section
variable {W:World} {L R:LH} {K:VK} {X:WK} {l p:Nat} {items:List bN} {f:Nat×List bN->LH} {F:Nat×List bN->Core->LH} {q:Core} {x y:bN}
def OO[i:Lc (sw aO 14 l) L (p,items) f](h:T W L (K (.i (items.length:Int)))):T W L (gh (ah l) K):=by
 have hL:f (p,items)=L:=i.same;refine Hk (g:=aO) (e:=14) (l:=l) λb c R hc=>?_;unfold gh;apply ws;exact hc [] _ _ _ _ _ rfl (by rw[hL];exact h)
def VA{b:OA}{c:Nat}{v:Value}{n:Nat}{f1:LV->LH}{f2:HP->LH}[i:Lc (Sep.pt l) L [.l b items.length c,v] f1][j:vI b items.length c L 14 (items.flatMap aO) f2](hx:items[n]?=some x)(hl:items.length<1000000)
 (h:T W L (K (.tuple ⟨[.agg ⟨aO x⟩,.b true]⟩))):T W L (dQ (ah l) (n:Int) K):=by
 have cj:=(av.1 hx).1;unfold dQ;apply ws;intros;apply eO (by simp);unfold gh;apply ws;unfold dQ.j1;refine eO (by simp;omega) ?_;apply ws;refine dT ⟨by omega,by omega⟩ λr hr=>?_;subst hr;rw[ak];apply ij jR hx;apply ws;exact T.dp h
def aeQ[i:Lc (sw aO 14 l) L (p,items) f]{n:Nat}(hx:items[n]?=some x)(hl:items.length<1000000)(h:T W L (K (.tuple ⟨[.agg ⟨aO x⟩,.b true]⟩))):T W L (dQ (ah l) (n:Int) K):=by
 have hL:f (p,items)=L:=i.same;refine Hk (g:=aO) (e:=14) (l:=l) λb c R hc=>?_;apply VA hx hl;exact hc [] _ _ _ _ _ rfl (by rw[hL];exact h)
abbrev BV(r1 r3:Nat):Value:=.func (.func N.cE) ⟨[]⟩ ⟨[.p (some (ad r1 0)),.p (some (ad r3 0))]⟩
abbrev Ek(r4 r1 r2:Nat):Value:=.func (.func N.cD) ⟨[]⟩ ⟨[.p (some (ad r4 0)),.p (some (ad r1 0)),.p (some (ad r2 0))]⟩
def VB[i:Lc (sw aO 14 l) L (p,items) f][j:V8 (sw aO 14 l) (gW p) L (p,items) q F](hl:items.length<1000000)(hv:q.vs.length<1000000)
 (h:∀r1 r3,T W (Sep.pt r3 [.i (items.length:Int)]::Sep.pt r1 [.p (some (ad l 0))]::F (p,items++[x]) {q with vs:=q.vs++[BV r1 r3]}) (K (.i (items.length:Int)))):
 T W L (jb (ah l) (aO x) K):=by
 refine DV (P:=sw aO 14 l) (Q:=gW p) λR hc=>?_;refine rO λb c=>?_;unfold jb;apply ws;intros;refine kP (x:=x) (by simp) rfl rfl (by omega) (by omega) (iW _) λb' c'=>?_;apply ws;apply vX (p:=p) hv rfl rfl;apply ws;rename_i r1 r2 r3 r4;refine T.sub (M:=[Sep.pt r3 _,Sep.pt r1 _]++Sep.pt l _::own b' _ c' 14 _::gW p _::R) ?_ (by repeat (first|exact bl.refl _|apply bl.cons_cons|apply bl.cons));exact xm (by simp) (hc [_,_] _ _ _ (h r1 r3))
def ab9[i:Lc (sw aO 14 l) L (p,items) f][j:V8 (sw aO 14 l) (gW p) L (p,items) q F]{n:Nat}(hx:items[n]?=some y)(hl:items.length<1000000)(hv:q.vs.length<1000000)
 (h:∀r4 r1 r2,T W (Sep.pt r4 (aO y)::Sep.pt r2 [.i (n:Int)]::Sep.pt r1 [.p (some (ad l 0))]::F (p,items.set n x) {q with vs:=q.vs++[Ek r4 r1 r2]}) (K (.b true))):
 T W L (kD (ah l) (n:Int) (aO x) K):=by
 have cj:=(av.1 hx).1;refine DV (P:=sw aO 14 l) (Q:=gW p) λR hc=>?_;refine rO λb c=>?_;unfold kD
 repeat' first|apply ws;intros|apply wb|refine VA hx hl ?_
 refine dT ⟨by omega,by omega⟩ λr hr=>?_;subst hr;rw[ak];refine dJ rfl (q9 jR cj (iW _) ?_);apply ws;apply vX (p:=p) hv rfl rfl;apply ws;rename_i r1 r2 r3 r4;refine T.sub (M:=[Sep.pt r4 _,Sep.pt r2 _,Sep.pt r1 _]++Sep.pt l _::own (ah r) _ c 14 _::gW p _::R) ?_ (by repeat (first|exact bl.refl _|apply bl.cons_cons|apply bl.cons));exact xm (by simp) (hc [_,_,_] _ _ _ (h r4 r1 r2))
def ab'[i:Lc (sw aO 14 l) L (p,items) f](hl:items.length<1000000)(h:∀b c,T W (own b items.length c 14 (items.flatMap aO)::L) (K (.l b items.length c))):T W L (kE (ah l) K):=by
 have hL:f (p,items)=L:=i.same;refine Hk (g:=aO) (e:=14) (l:=l) λb c R hc=>?_;unfold kE;apply ws;refine iR (e:=14) ?_;refine rI (b:=none) (l0:=([]:List bN)) (l1:=items) jR rfl (by omega) iW λb' c'=>?_;have:=hc [own b' items.length c' 14 (items.flatMap aO)] b items.length c items _ rfl (by rw[hL];exact h b' c');simpa using this
end
section
variable {W:World} {L R:LH} {K:VK} {X:WK} {l p:Nat} {items:List cr} {f:Nat×List cr->LH} {F:Nat×List cr->Core->LH} {q:Core} {x y:cr}
def OK[i:Lc (sw bM 33 l) L (p,items) f](h:T W L (K (.i (items.length:Int)))):T W L (gu (ah l) K):=by
 have hL:f (p,items)=L:=i.same;refine Hk (g:=bM) (e:=33) (l:=l) λb c R hc=>?_;unfold gu;apply ws;exact hc [] _ _ _ _ _ rfl (by rw[hL];exact h)
def Vt{b:OA}{c:Nat}{v:Value}{n:Nat}{f1:LV->LH}{f2:HP->LH}[i:Lc (Sep.pt l) L [.l b items.length c,v] f1][j:vI b items.length c L 33 (items.flatMap bM) f2](hx:items[n]?=some x)(hl:items.length<1000000)
 (h:T W L (K (.tuple ⟨[.agg ⟨bM x⟩,.b true]⟩))):T W L (dO (ah l) (n:Int) K):=by
 have cj:=(av.1 hx).1;unfold dO;apply ws;intros;apply eO (by simp);unfold gu;apply ws;unfold dO.j1;refine eO (by simp;omega) ?_;apply ws;refine dT ⟨by omega,by omega⟩ λr hr=>?_;subst hr;rw[ak];apply ij wx hx;apply ws;exact T.dp h
def Vs[i:Lc (sw bM 33 l) L (p,items) f]{n:Nat}(hx:items[n]?=some x)(hl:items.length<1000000)(h:T W L (K (.tuple ⟨[.agg ⟨bM x⟩,.b true]⟩))):T W L (dO (ah l) (n:Int) K):=by
 have hL:f (p,items)=L:=i.same;refine Hk (g:=bM) (e:=33) (l:=l) λb c R hc=>?_;apply Vt hx hl;exact hc [] _ _ _ _ _ rfl (by rw[hL];exact h)
abbrev vD(r1 r3:Nat):Value:=.func (.func N.cZ) ⟨[]⟩ ⟨[.p (some (ad r1 0)),.p (some (ad r3 0))]⟩
abbrev BU(r4 r1 r2:Nat):Value:=.func (.func N.cY) ⟨[]⟩ ⟨[.p (some (ad r4 0)),.p (some (ad r1 0)),.p (some (ad r2 0))]⟩
def Vu[i:Lc (sw bM 33 l) L (p,items) f][j:V8 (sw bM 33 l) (gW p) L (p,items) q F](hl:items.length<1000000)(hv:q.vs.length<1000000)
 (h:∀r1 r3,T W (Sep.pt r3 [.i (items.length:Int)]::Sep.pt r1 [.p (some (ad l 0))]::F (p,items++[x]) {q with vs:=q.vs++[vD r1 r3]}) (K (.i (items.length:Int)))):
 T W L (ka (ah l) (bM x) K):=by
 refine DV (P:=sw bM 33 l) (Q:=gW p) λR hc=>?_;refine rO λb c=>?_;unfold ka;apply ws;intros;refine kP (x:=x) (by simp) rfl rfl (by omega) (by omega) (mW _) λb' c'=>?_;apply ws;apply vX (p:=p) hv rfl rfl;apply ws;rename_i r1 r2 r3 r4;refine T.sub (M:=[Sep.pt r3 _,Sep.pt r1 _]++Sep.pt l _::own b' _ c' 33 _::gW p _::R) ?_ (by repeat (first|exact bl.refl _|apply bl.cons_cons|apply bl.cons));exact xm (by simp) (hc [_,_] _ _ _ (h r1 r3))
def ab2[i:Lc (sw bM 33 l) L (p,items) f][j:V8 (sw bM 33 l) (gW p) L (p,items) q F]{n:Nat}(hx:items[n]?=some y)(hl:items.length<1000000)(hv:q.vs.length<1000000)
 (h:∀r4 r1 r2,T W (Sep.pt r4 (bM y)::Sep.pt r2 [.i (n:Int)]::Sep.pt r1 [.p (some (ad l 0))]::F (p,items.set n x) {q with vs:=q.vs++[BU r4 r1 r2]}) (K (.b true))):
 T W L (mr (ah l) (n:Int) (bM x) K):=by
 have cj:=(av.1 hx).1;refine DV (P:=sw bM 33 l) (Q:=gW p) λR hc=>?_;refine rO λb c=>?_;unfold mr
 repeat' first|apply ws;intros|apply wb|refine Vt hx hl ?_
 refine dT ⟨by omega,by omega⟩ λr hr=>?_;subst hr;rw[ak];refine dJ rfl (q9 wx cj (mW _) ?_);apply ws;apply vX (p:=p) hv rfl rfl;apply ws;rename_i r1 r2 r3 r4;refine T.sub (M:=[Sep.pt r4 _,Sep.pt r2 _,Sep.pt r1 _]++Sep.pt l _::own (ah r) _ c 33 _::gW p _::R) ?_ (by repeat (first|exact bl.refl _|apply bl.cons_cons|apply bl.cons));exact xm (by simp) (hc [_,_,_] _ _ _ (h r4 r1 r2))
def ab4[i:Lc (sw bM 33 l) L (p,items) f](hl:items.length<1000000)(h:∀b c,T W (own b items.length c 33 (items.flatMap bM)::L) (K (.l b items.length c))):T W L (mu (ah l) K):=by
 have hL:f (p,items)=L:=i.same;refine Hk (g:=bM) (e:=33) (l:=l) λb c R hc=>?_;unfold mu;apply ws;refine iR (e:=33) ?_;refine rI (b:=none) (l0:=([]:List cr)) (l1:=items) wx rfl (by omega) mW λb' c'=>?_;have:=hc [own b' items.length c' 33 (items.flatMap bM)] b items.length c items _ rfl (by rw[hL];exact h b' c');simpa using this
end
def vV(bx:List (Nat×LV)):HP:=va (bx.map λx=>Sep.pt x.1 x.2)
def St.Th{W w:World}{M R:LH}{A:HP}(h:St W w (va M::R))(hm:A∈M):∃R',St W w (A::R')/\∀w',St W w' (A::R')->St W w' (va M::R):=by
 obtain⟨k,hk⟩:=qB hm;have p:=ta hk;exact⟨M.eraseIdx k++R,(St.sF M R h).perm (p.append_right R),λw' h'=>St.ra M R (h'.perm (p.symm.append_right R))⟩
section
variable {W:World} {L:LH} {K:VK} {X:WK} {r o n:Nat} {cs xs:LV} {v:Value} {bx:List (Nat×LV)} {f:List (Nat×LV)->LH}
def Gh(hm:(r,cs)∈bx)[i:Lc vV L bx f]{w:World}(hs:St W w L):∃R,St W w (Sep.pt r cs::R):=by
 obtain⟨k,hk,_⟩:=i.at_;obtain⟨R,h1,_⟩:=St.Th (M:=bx.map λx=>Sep.pt x.1 x.2) (hs.focus hk) (dF.2 ⟨(r,cs),hm,rfl⟩);exact⟨R,h1⟩
def so[i:Lc vV L bx f](hm:(r,cs)∈bx)(hv:cs[o]?=some v)(h:T W L (K v)):T W L (ld ⟨r,o,none⟩ K):=λw hs=>by
 obtain⟨R,hr⟩:=Gh hm hs;exact cX hr (k:=0) rfl hv (h w hs)
def ET[i:Lc vV L bx f](hm:(r,cs)∈bx)(hv:cs[o]?=some v)(h:T W L X):T W L (kp ⟨r,o,none⟩ [v] X):=λw hs=>by
 obtain⟨R,hr⟩:=Gh hm hs;exact kC hr (k:=0) rfl hv (h w hs)
def EP{K:LV->WK}[i:Lc vV L bx f](hm:(r,cs)∈bx)[s:Sub cs o n xs](h:T W L (K xs)):T W L (aJ ⟨r,o,none⟩ n K):=λw hs=>by
 obtain⟨R,hr⟩:=Gh hm hs;exact km hr (k:=0) rfl s.is.1 s.is.2 (h w hs)
def eP[i:Lc vV L bx f](h:T W (f ((r,cs)::bx)) X):T W (Sep.pt r cs::L) X:=by
 obtain⟨R,h1,h2⟩:=i.perm;refine T.perm (λw hs=>?_) (h1.cons _);refine T.perm h (h2 _).symm w (St.ra (((r,cs)::bx).map λx=>Sep.pt x.1 x.2) R ?_);exact(St.sF (bx.map λx=>Sep.pt x.1 x.2) (Sep.pt r cs::R) (hs.perm (bX.swap _ _ _))).perm iI
end
structure C where
 aB:List bN
 ax:List cr
 pI:(Nat->Option Int)×Nat
 iu:(Nat->Option Int)×Nat
 dK:List ou
 ends:List Item
 clock:Int
 ay:Int
abbrev A7(a:Nat):Value:=.func (.func N.dZ) ⟨[]⟩ ⟨[.p (some (ad a 0))]⟩
abbrev YT(a a2:Nat):Value:=.func (.func N.ef) ⟨[]⟩ ⟨[.p (some (ad a 0)),.p (some (ad a2 0))]⟩
abbrev SI(a a2:Nat):Value:=.func (.func N.eo) ⟨[]⟩ ⟨[.p (some (ad a 0)),.p (some (ad a2 0))]⟩
abbrev EJ(a a2 a3:Nat):Value:=.func (.func N.eE) ⟨[]⟩ ⟨[.p (some (ad a 0)),.p (some (ad a2 0)),.p (some (ad a3 0))]⟩
abbrev M9(a a2:Nat):Value:=.func (.func N.eu) ⟨[]⟩ ⟨[.p (some (ad a 0)),.p (some (ad a2 0))]⟩
abbrev Z9(a a2:Nat):Value:=.func (.func N.fj) ⟨[]⟩ ⟨[.p (some (ad a 0)),.p (some (ad a2 0))]⟩
inductive DC(p la lk:Nat)(bx:List (Nat×LV)):Value->C->C->Prop
 |next {c:C} {a:Nat} {s:Int} (h1:(a,[.pointer (some (ad p 0))])∈bx) (hs:aa.wrap (c.ay-1)=s):DC p la lk bx (A7 a) c {c with ay:=s}
 |time {c:C} {a a2:Nat} {t:Int} (h1:(a,[.int .i64 t])∈bx) (h2:(a2,[.pointer (some (ad p 0))])∈bx):DC p la lk bx (YT a a2) c {c with clock:=t}
 |open_ {c:C} {a a2:Nat} {x:bN} {m:(Nat->Option Int)×Nat} (h1:(a,[.pointer (some (ad p 0))])∈bx) (h2:(a2,aO x)∈bx) (hu:c.pI.2<=1000) (hi:(c.pI.1 x.id).isSome=true) (hm:(wR c.pI.1 x.id none,c.pI.2-1)=m):
  DC p la lk bx (SI a a2) c {c with pI:=m}
 |Yw {c:C} {a a2 n:Nat} (h1:(a,[.pointer (some (ad la 0))])∈bx) (h2:(a2,[.int .i64 (n:Int)])∈bx) (hn:n<=c.aB.length):DC p la lk bx (BV a a2) c {c with aB:=c.aB.take n}
 |Yv {c:C} {a a2 n:Nat} (h1:(a,[.pointer (some (ad lk 0))])∈bx) (h2:(a2,[.int .i64 (n:Int)])∈bx) (hn:n<=c.ax.length):DC p la lk bx (vD a a2) c {c with ax:=c.ax.take n}
 |Wv {c:C} {a1 a2 a3 n:Nat} {x:bN} (h1:(a1,aO x)∈bx) (h2:(a2,[.pointer (some (ad la 0))])∈bx) (h3:(a3,[.int .i64 (n:Int)])∈bx) (hn:n<c.aB.length):DC p la lk bx (Ek a1 a2 a3) c {c with aB:=c.aB.set n x}
 |Wu {c:C} {a1 a2 a3 n:Nat} {x:cr} (h1:(a1,bM x)∈bx) (h2:(a2,[.pointer (some (ad lk 0))])∈bx) (h3:(a3,[.int .i64 (n:Int)])∈bx) (hn:n<c.ax.length):DC p la lk bx (BU a1 a2 a3) c {c with ax:=c.ax.set n x}
 |PS {c:C} {a a2 a3:Nat} {t:cx} {k:cr} {l0:List ou} {at_:Int} {m:(Nat->Option Int)×Nat} (h1:(a,[.pointer (some (ad p 0))])∈bx) (h2:(a2,aM t)∈bx) (h3:(a3,bM k)∈bx)
  (hu:c.iu.2<=1000) (hi:(c.iu.1 t.id).isSome=true) (hr:sR c.dK) (hl:c.dK.length<100000) (hs:c.dK=l0++[(k.move.ay,at_)]) (hm:(wR c.iu.1 t.id none,c.iu.2-1)=m):
  DC p la lk bx (EJ a a2 a3) c {c with iu:=m,dK:=l0}
 |PR {c:C} {a a2:Nat} {x:Item} {e':List Item} (h1:(a,[.pointer (some (ad p 0))])∈bx) (h2:(a2,gO x)∈bx) (hl:c.ends.length<10000) (he:(x::e').Perm c.ends) (hn:∀y∈e',y.ay≠x.ay):
  DC p la lk bx (M9 a a2) c {c with ends:=e'}
 |end_ {c:C} {a a2:Nat} {x:Item} {e':List Item} (h1:(a,[.pointer (some (ad p 0))])∈bx) (h2:(a2,gO x)∈bx) (hl:c.ends.length<10000) (he:e'.Perm (c.ends++[x])):DC p la lk bx (Z9 a a2) c {c with ends:=e'}
def DC.mono{p la lk:Nat}{bx oO:List (Nat×LV)}{v:Value}{c c':C}(h:DC p la lk bx v c c')(hs:∀x∈bx,x∈oO):DC p la lk oO v c c':=by
 cases h with
 |next h1 h2=>exact .next (hs _ h1) h2
 |time h1 h2=>exact .time (hs _ h1) (hs _ h2)
 |open_ h1 h2 h3 h4 h5=>exact .open_ (hs _ h1) (hs _ h2) h3 h4 h5
 |Yw h1 h2 h3=>exact .Yw (hs _ h1) (hs _ h2) h3
 |Yv h1 h2 h3=>exact .Yv (hs _ h1) (hs _ h2) h3
 |Wv h1 h2 h3 h4=>exact .Wv (hs _ h1) (hs _ h2) (hs _ h3) h4
 |Wu h1 h2 h3 h4=>exact .Wu (hs _ h1) (hs _ h2) (hs _ h3) h4
 |PS h1 h2 h3 h4 h5 h6 h7 h8 h9=>exact .PS (hs _ h1) (hs _ h2) (hs _ h3) h4 h5 h6 h7 h8 h9
 |PR h1 h2 h3 h4 h5=>exact .PR (hs _ h1) (hs _ h2) h3 h4 h5
 |end_ h1 h2 h3 h4=>exact .end_ (hs _ h1) (hs _ h2) h3 h4
def ku(p la lk:Nat)(bx:List (Nat×LV)):LV->List C->C->Prop
 |[],[],_=>True
 |v::vs,c'::hs,c=>DC p la lk bx v c c'/\ku p la lk bx vs hs c'
 |_,_,_=>False
def ku.mono{p la lk:Nat}{bx oO:List (Nat×LV)}(hs:∀x∈bx,x∈oO):∀{vs:LV} {h:List C} {c:C},ku p la lk bx vs h c->ku p la lk oO vs h c
 |[],[],_,_=>trivial
 |v::vs,c'::h,c,hc=>⟨hc.1.mono hs,ku.mono hs hc.2⟩
def ku.len{p la lk:Nat}{bx:List (Nat×LV)}:∀{vs:LV} {h:List C} {c:C},ku p la lk bx vs h c->vs.length=h.length
 |[],[],_,_=>rfl
 |v::vs,c'::h,c,hc=>by simp[ku.len hc.2]
abbrev gG(la lk ti tn:Nat)(vs:LV)(c:C):Core:=⟨la,lk,ti,tn,vs.reverse,c.dK,c.ends,c.clock,c.ay⟩
def KV(p la lk ti tn:Nat)(vs:LV)(bx:List (Nat×LV))(c:C)(R:LH):LH:=
 gW p (gG la lk ti tn vs c)::sw aO 14 la (p,c.aB)::sw bM 33 lk (p,c.ax)::pr ti c.pI::pr tn c.iu::vV bx::R
section
variable {W:World} {R:LH} {K:VK} {X:WK} {p la lk ti tn:Nat} {vs:LV} {bx:List (Nat×LV)} {c c':C} {v:Value}
def aeG:GH:=[(N.fj,fj.u),(N.eE,eE.u),(N.eu,eu.u),(N.eo,eo.u),(N.ef,ef.u),(N.dZ,dZ.u),(N.cE,cE.u),(N.cD,cD.u),(N.cZ,cZ.u),(N.cY,cY.u)]
def T.Iq{q:Core}{e e':List Item}(he:e.Perm e')(h:T W (gW p {q with ends:=e'}::R) X):T W (gW p {q with ends:=e}::R) X:=
 Ir λb1 c1 b2 c2 b3 c3 hp h1 h2=>AJ (q:={q with ends:=e'}) h1 (h2.trans he) h
def T.Ns{A B:HP}(h:T W (B::A::R) X):T W (A::B::R) X:=T.perm h (bX.swap _ _ _)
def T.Y'{A B:HP}(h:T W (A::B::R) X):T W (B::A::R) X:=T.perm h (bX.swap _ _ _)
def T.aaE{A B D:HP}(h:T W (D::A::B::R) X):T W (A::B::D::R) X:=T.Zb (R:=R) h
def T.Y9{A B D:HP}(h:T W (A::B::D::R) X):T W (D::A::B::R) X:=T.Za (R:=R) h
def He{x y:Item}{e' e2 e:List Item}(h1:(x::e').Perm e)(h2:(y::e2).Perm e)(hy:y.ay=x.ay)(hn:∀z∈e',z.ay≠x.ay):e2.Perm e':=by
 have:y∈x::e':=h1.mem_iff.2 (h2.mem_iff.1 (by simp));rcases jX.1 this with rfl|hm
 ·exact(List.perm_cons y).1 (h2.trans h1.symm)
 ·exact aQ hy (hn y hm)
def acG(hc:DC p la lk bx v c c')(h:T W (KV p la lk ti tn vs bx c' R) (K (.tuple ⟨[]⟩))):T W (KV p la lk ti tn vs bx c R) (wN aeG v [] K):=by
 unfold KV at *;cases hc with
 |next h1 hs=>
  rename_i a s;show T W _ (dZ (ad a 0) K);unfold dZ
  repeat' first|apply ws|apply wb|first|refine so h1 rfl ?_|refine Nb ?_
  rw[show aa.wrap ((gG la lk ti tn vs c).ay-1)=s from hs];exact h
 |time h1 h2=>
  rename_i a a2 t;show T W _ (ef (ad a 0) (ad a2 0) K);unfold ef
  repeat' first|apply ws|apply wb|first|refine so h2 rfl ?_|refine so h1 rfl ?_|refine Nc ?_
  exact h
 |open_ h1 h2 h3 h4 h5=>
  rename_i a a2 x m;show T W _ (eo (ad a 0) (ad a2 0) K);unfold eo
  repeat' first|apply ws|apply wb|first|refine so h1 rfl ?_|refine ET h1 rfl ?_
  apply EP h2;refine Vx h3 (λ_=>?_) (λhn=>by rw[hn] at h4;cases h4)
  repeat' first|apply ws|apply wb|refine ET h1 rfl ?_
  rw[h5];exact h
 |Yw h1 h2 h3=>
  rename_i a a2 n;show T W _ (cE (ad a 0) (ad a2 0) K);apply T.Ns;refine rO λb cc=>?_;unfold cE
  repeat' first|apply ws|apply wb|first|refine so h1 rfl ?_|refine so h2 rfl ?_
  refine qv (b:=b) λvd _=>?_;refine Ad (by omega) ?_;refine Ba (b:=b) (i:=n) jR (by omega) ?_;apply ws;exact uu (g:=aO) (e:=14) (by rw[aC];omega) (T.Y' h)
 |Yv h1 h2 h3=>
  rename_i a a2 n;show T W _ (cZ (ad a 0) (ad a2 0) K);apply T.aaE;refine rO λb cc=>?_;unfold cZ
  repeat' first|apply ws|apply wb|first|refine so h1 rfl ?_|refine so h2 rfl ?_
  refine qv (b:=b) λvd _=>?_;refine Ad (by omega) ?_;refine Ba (b:=b) (i:=n) wx (by omega) ?_;apply ws;exact uu (g:=bM) (e:=33) (by rw[aC];omega) (T.Y9 h)
 |Wv h1 h2 h3 h4=>
  rename_i a1 a2 a3 n x;show T W _ (cD (ad a1 0) (ad a2 0) (ad a3 0) K);apply T.Ns;refine rO λb cc=>?_;unfold cD
  repeat' first|apply ws|apply wb|first|refine so h2 rfl ?_|refine so h3 rfl ?_
  apply EP h1;refine dT ⟨by omega,by omega⟩ λr hr=>?_;subst hr;rw[ak];refine dJ rfl (q9 jR h4 (iW _) ?_);exact uu (g:=aO) (e:=14) (by simp) (T.Y' h)
 |Wu h1 h2 h3 h4=>
  rename_i a1 a2 a3 n x;show T W _ (cY (ad a1 0) (ad a2 0) (ad a3 0) K);apply T.aaE;refine rO λb cc=>?_;unfold cY
  repeat' first|apply ws|apply wb|first|refine so h2 rfl ?_|refine so h3 rfl ?_
  apply EP h1;refine dT ⟨by omega,by omega⟩ λr hr=>?_;subst hr;rw[ak];refine dJ rfl (q9 wx h4 (mW _) ?_);exact uu (g:=bM) (e:=33) (by simp) (T.Y9 h)
 |PS h1 h2 h3 h4 h5 h6 h7 h8 h9=>
  rename_i a a2 a3 t k l0 at_ m;show T W _ (eE (ad a 0) (ad a2 0) (ad a3 0) K);unfold eE
  repeat' first|apply ws|apply wb|first|refine so h1 rfl ?_|refine ET h1 rfl ?_
  apply EP h2;refine Vx h4 (λ_=>?_) (λhn=>by rw[hn] at h5;cases h5)
  repeat' first|apply ws|apply wb|first|refine so h1 rfl ?_|refine ET h1 rfl ?_|refine so h3 rfl ?_
  simp only[gY,aD];refine UL (p:=p) (q:=gG la lk ti tn vs c) h6 (by show c.dK.length<_;omega) h8 ?_
  repeat' first|apply ws|apply wb|refine ET h1 rfl ?_
  rw[h9];exact h
 |PR h1 h2 h3 h4 h5=>
  rename_i a a2 x e';show T W _ (eu (ad a 0) (ad a2 0) K);unfold eu
  repeat' first|apply ws|apply wb|first|refine so h1 rfl ?_|refine so h2 rfl ?_
  simp only[gY,aD];refine Ma (p:=p) (q:=gG la lk ti tn vs c) h3 (λy e2 hy hp=>?_) (λJm=>aQ rfl (Jm x (h4.mem_iff.1 (by simp))))
  repeat' first|apply ws|apply wb|refine ET h1 rfl ?_
  exact T.Iq (He h4 hp hy h5) h
 |end_ h1 h2 h3 h4=>
  rename_i a a2 x e';show T W _ (fj (ad a 0) (ad a2 0) K);unfold fj
  repeat' first|apply ws|apply wb|refine so h1 rfl ?_
  apply EP h2;simp only[gY,aD];apply JN (p:=p) (q:=gG la lk ti tn vs c) h3 h4
  repeat' first|apply ws|apply wb|refine ET h1 rfl ?_
  exact h
end
structure aia where
 la:Nat
 lk:Nat
 ti:Nat
 tn:Nat
def cP(p:Nat)(x:C×List C):HP:=
 So λz:aia×LV×List (Nat×LV)=>DQ (ku p z.1.la z.1.lk z.2.2 z.2.1 x.2 x.1) (va (KV p z.1.la z.1.lk z.1.ti z.1.tn z.2.1 z.2.2 x.1 []))
section
variable {W:World} {L R:LH} {K:VK} {X:WK} {p:Nat} {c:C} {hs:List C} {f:C×List C->LH}
def UT(h:∀la lk ti tn vs bx,ku p la lk bx vs hs c->T W (gW p (gG la lk ti tn vs c)::sw aO 14 la (p,c.aB)::sw bM 33 lk (p,c.ax)::pr ti c.pI::pr tn c.iu::vV bx::R) X):T W (cP p (c,hs)::R) X:=λw hw=>by
 obtain⟨⟨⟨la,lk,ti,tn⟩,vs,bx⟩,hw⟩:=hw.ex;obtain⟨hc,hw⟩:=hw.and;exact h la lk ti tn vs bx hc w (St.sF _ _ hw)
def Em{la lk ti tn:Nat}{vs:LV}{bx:List (Nat×LV)}(hc:ku p la lk bx vs hs c)(h:T W (cP p (c,hs)::R) X):
 T W (gW p (gG la lk ti tn vs c)::sw aO 14 la (p,c.aB)::sw bM 33 lk (p,c.ax)::pr ti c.pI::pr tn c.iu::vV bx::R) X:=λw hw=>
 h w (St.qR (⟨la,lk,ti,tn⟩,vs,bx) (St.and_intro hc (St.ra _ _ hw)))
def t_c[i:Lc (cP p) L (c,hs) f](h:∀la lk ti tn vs bx R,ku p la lk bx vs hs c->
 (∀M c' fC GA oO Y,ku p la lk oO GA fC c'->T W (M++f (c',fC)) Y->T W (M++gW p (gG la lk ti tn GA c')::sw aO 14 la (p,c'.aB)::sw bM 33 lk (p,c'.ax)::pr ti c'.pI::pr tn c'.iu::vV oO::R) Y)->
 T W (gW p (gG la lk ti tn vs c)::sw aO 14 la (p,c.aB)::sw bM 33 lk (p,c.ax)::pr ti c.pI::pr tn c.iu::vV bx::R) X):T W L X:=
 DU (P:=cP p) λR pV=>UT λla lk ti tn vs bx hc=>h la lk ti tn vs bx R hc λM c' fC GA oO Y LO hy=>
  T.perm (Em (R:=M++R) LO (T.perm (pV M (c',fC) Y hy) iI.symm)) (by
   have:=bt (l₁:=M) (l₂:=[gW p (gG la lk ti tn GA c'),sw aO 14 la (p,c'.aB),sw bM 33 lk (p,c'.ax),pr ti c'.pI,pr tn c'.iu,vV oO])|>.append_right R
   simpa using this)
def Ca{b:OA}{n c e i:Nat}{xs:LV}{f:HP->LH}[j:vI b n c L e xs f](hi:i<=n)(h:T W (f (own b i c e (xs.take (i* e)))) X):T W L X:=λw hs=>by
 obtain⟨k,hk,e1⟩:=j.at_;apply h w;rw[e1];exact St.rH ((hs.focus hk).mono (Fs hi)) hk
def SW{r n c e o:Nat}{xs:LV}{v:Value}{f:HP->LH}[j:vI (ah r) n c L e xs f](hv:xs[o]?=some v)(h:T W L (K v)):T W L (ld ⟨r,o,none⟩ K):=λw hs=>by
 obtain⟨k,hk,_⟩:=j.at_;exact Av hs hk hv (h w hs)
def S5{b:OA}{n c e:Nat}{xs ys:LV}{f:HP->LH}[j:vI b n c L e xs f](hl:ys.length=xs.length)(h1:∀v∈ys,v.oneCell'=true)(h:∀zs,T W (f (own b n c e zs)) X):T W L (Yg ys b n X):=λw hs=>by
 obtain⟨k,hk,e1⟩:=j.at_;refine⟨λ_=>h xs w (by rw[e1,nI hk];exact hs),λa ha _=>?_⟩;obtain⟨hlx,h0|⟨r,sp,hb,vd,B4,gI⟩⟩:=hs.oI hk
 ·rw[h0.1] at ha;cases ha
 ·rw[hb] at ha;cases ha
  obtain⟨hc,vY⟩:=St.Af ys 0 0 gI (kj hk) (by simp;omega) h1;refine⟨hc,h ys _ ?_⟩;rw[jC,gK] at vY;have e2:over (xs++sp) 0 ys=ys++sp:=by
   unfold over;rw[og,cT,aD,hl,List.drop_left' rfl]
  rw[e2] at vY;rw[e1,hb];exact St.Cp ((av.1 hk).1) (by rw[hl];exact hlx) vd B4 vY
def uY(n:Nat):C->List C->C×List C
 |c,[]=>(c,[])
 |c,c'::hs=>if n<=hs.length then uY n c' hs else(c,c'::hs)
def Dx{n:Nat}(hn:hs.length<=n):uY n c hs=(c,hs):=by
 cases hs with
 |nil=>rfl
 |cons c' hs=>unfold uY;rw[af (by simp at hn;omega)]
def RO{q:Core}{w:World}(h:St W w (gW p q::R)):∃b c,w.cell? ⟨p,0,none⟩=some (.l b q.vs.length c):=by
 obtain⟨⟨⟨b1,c1⟩,⟨b2,c2⟩,⟨b3,c3⟩,hp⟩,hs⟩:=h.ex;obtain⟨_,hs⟩:=hs.and;have:=(St.sF _ _ hs).cell (k:=0) (o:=0) rfl;exact⟨b1,c1,this.1⟩
def muB(p:Nat)(w:World):Nat:=match w.cell? ⟨p,0,none⟩ with|some (.slice _ m _)=>m|_=>0
def TN{q:Core}{w:World}(h:St W w (gW p q::R)):muB p w=q.vs.length:=by
 obtain⟨b,cc,e⟩:=RO h;unfold muB;rw[e]
def ab8[i:Lc (cP p) L (c,hs) f]{n:Nat}(hl:hs.length<1000000)(h:T W (f (uY n c hs)) (K (.tuple ⟨[]⟩))):T W L (sU (ah p) (n:Int) K):=by
 refine t_c (p:=p) λla lk ti tn vs bx R hc pV=>?_;unfold sU;apply yD;intro w hw;refine⟨λa w=>∃vs fC c',a=[]/\fC.length<1000000/\ku p la lk bx vs fC c'/\uY n c' fC=uY n c hs/\St W w (KV p la lk ti tn vs bx c' R),
  λ_ w=>muB p w,⟨vs,hs,c,rfl,hl,hc,rfl,hw⟩,?_⟩
 rintro w2 ⟨GA,fC,c',-,MQ,LO,hb,hw⟩;have hmu:muB p w2=GA.length:=by
  have:=TN (q:=gG la lk ti tn GA c') hw;rw[this];simp
 refine T.at ?_ hw;have hlen:=LO.len;have XA:max2 (n:Int) 0=n:=by unfold max2;split<;>omega
 rw[XA];unfold KV;refine qE (p:=p) λb1 c1 b2 c2 b3 c3 hp R2 g1 g2 Uf=>?_;unfold jq;have hrl:(gG la lk ti tn GA c').vs.length=GA.length:=ju;apply ws;apply fZ<;>intro g
 ·have P8:n<GA.length:=by omega
  match GA,fC,LO,hlen,MQ,P8 with
  |v::yz,c2'::gI,LO,hlen,MQ,P8=>
  simp only[aW] at P8 MQ hlen;have hrl:(gG la lk ti tn (v::yz) c').vs.length=yz.length+1:=by show(v::yz).reverse.length=_;simp
  have e1:aa.wrap (((gG la lk ti tn (v::yz) c').vs.length:Int) -1)=(yz.length:Int):=by rw[aX (by omega)];omega
  apply ws;rw[e1];refine dT ⟨by omega,by omega⟩ λr hr=>?_;subst hr;rw[ak,mm];refine SW (v:=v) (by simp) ?_;refine Uf [] (gG la lk ti tn (v::yz) c') _ _ _ _ _ _ _ _ g1 g2 ?_;apply acG (c':=c2') (vs:=v::yz) LO.1;unfold KV;refine qE (p:=p) λb1 c1 b2 c2 b3 c3 hp R2 g1 g2 afB=>?_;unfold jq;apply ws;refine qv (b:=b1) λvd _=>?_;have vd:(gG la lk ti tn (v::yz) c').vs.length<=c1:=vd;apply Ad (by omega);refine Ca (b:=b1) (i:=yz.length) (show yz.length<=(gG la lk ti tn (v::yz) c').vs.length by omega) ?_;apply ws;have et:List.take (yz.length* 1) (v::yz).reverse=yz.reverse:=by rw[mm,xW,<-ju,CW]
  rw[et];have:=afB [] (gG la lk ti tn yz c2') b1 c1 b2 c2 b3 c3 hp (λw3=>(∃vs fC c',([]:LV)=[]/\fC.length<1000000/\ku p la lk bx vs fC c'/\uY n c' fC=uY n c hs/\St W w3 (KV p la lk ti tn vs bx c' R))/\muB p w3<muB p w2) g1 g2 ?_
  ·unfold jq at this;rw[show(gG la lk ti tn yz c2').vs.length=yz.length from ju] at this;exact this
  ·intro w3 h3;refine⟨⟨yz,gI,c2',rfl,by omega,LO.2,?_,h3⟩,?_⟩
   ·rw[<-hb]
    conv=>rhs;unfold uY
    rw[ai (by omega)]
   ·have:=TN (q:=gG la lk ti tn yz c2') h3;rw[this,hmu];simp
 ·have hle:GA.length<=n:=by omega
  rw[Dx (by omega)] at hb;rw[<-hb] at h;refine Uf [] (gG la lk ti tn GA c') _ _ _ _ _ _ _ _ g1 g2 ?_;exact pV [] c' fC GA bx _ LO h
def YG[i:Lc (cP p) L (c,hs) f](hl:hs.length<1000000)(h:T W (f (c,[])) (K (.tuple ⟨[]⟩))):T W L (mS (ah p) K):=by
 refine t_c (p:=p) λla lk ti tn vs bx R hc pV=>?_;have hlen:=hc.len;refine qE (p:=p) λb1 c1 b2 c2 b3 c3 hp R2 g1 g2 Uf=>?_;unfold mS jq;apply ws;refine qv (b:=b1) λvd H3=>?_;refine S5 (b:=b1) (by rw[oA,H3];simp) (λv hv=>?_) λzs=>?_
 ·simp only[Builtin.zeroCells,Array.toList_map,dF] at hv;obtain⟨j,_,rfl⟩:=hv;have:(⟨[Value.nilFunc]⟩:Array Value)[j%(⟨[Value.nilFunc]⟩:Array Value).size]! =.nilFunc:=by
   have:j%(⟨[Value.nilFunc]⟩:Array Value).size=0:=Nat.mod_one j;rw[this];rfl
  rw[this];rfl
 apply ws;refine Ad (i:=0) (by omega) ?_;refine Ca (b:=b1) (i:=0) (by omega) ?_;apply ws;rw[Nat.zero_mul,og];refine Uf [] (gG la lk ti tn [] c) b1 c1 b2 c2 b3 c3 hp _ g1 g2 ?_;exact pV [] c [] [] bx _ trivial h
end
end Go.Up
namespace Go.Md
structure bS(m:aA):Prop where
 zero:∀a∈m.dj,a.dp=0/\a.dq=0/\a.cp=0/\a.cq=0/\0<=a.ao/\a.ao<8
 ids:(m.dj.map (·.id)).Nodup
 oS:m.dj.length<=32
 names:(m.ax.map (·.move.id)).Nodup
 wH:∀k∈m.ax,0<=k.fate/\k.fate<=4/\(has k.move.ao 2↔1<=k.fate)
 yF:∀k∈m.ax,k.move.bC≠k.move.aU/\k.move.bC∈m.dj.map (·.id)/\k.move.aU∈m.dj.map (·.id)
 some_:m.ax.length<=96
 yZ:∀a∈m.dj,S (AX a.id) m.ax+S (CE a.id) m.ax<bJ
 vA:∀a∈m.dj,S (AY a.id) m.ax+S (CF a.id) m.ax<bJ
 vB:∀a∈m.dj,S (uR a.id) m.ax<=1
structure pJ(b:bh)(m:aA):Prop where
 aB:b.aB=m.dj.map (full m.ax)
 ax:b.ax=m.ax
 clock:b.clock=m.clock
 ay:b.ay=m.ay
def bS.full{m:aA}(h:bS m){a:bN}(ha:a∈m.dj):m.full a=Md.full m.ax a:=by
 obtain⟨h1,h2,h3,h4,_⟩:=h.zero a ha;have d:=h.yZ a ha;have c:=h.vA a ha;exact Ob a m.ax (by omega) (by omega) (by omega) (by omega)
def BO{l:List bN}{id:Nat}{a:bN}(h:l.find? (λa=>a.id=id)=some a):a∈l/\a.id=id:=
 ⟨ni h,by simpa using List.find?_some h⟩
def pJ.find{b:bh}{m:aA}(h:pJ b m)(id:Nat):b.find id=(m.find id).map (Md.full m.ax):=by
 unfold bh.find aA.find;rw[h.aB,List.find?_map]
 rfl
def Ie(l:List cr)(k:cr)(a:bN):full (l++[k]) a=full [k] (full l a):=(Dp a l [k]).symm
def BL(k:cr)(a:bN):full [k] a={a with dp:=a.dp+AX a.id k,dq:=a.dq+CE a.id k,cp:=a.cp+AY a.id k,cq:=a.cq+CF a.id k,ao:=if kF a.id k then a.ao%8+8 else a.ao}:=by
 unfold full;simp only[se,y6,gK]
 congr 1
 unfold uR;by_cases h:kF a.id k
 ·rw[ai h,ai h,af (by omega)]
 ·rw[af h,af h,ai rfl]
def qz(t b:cx):qf t b≠0:=by unfold qf;split<;>decide
def R7(a b:bN):qG a b≠0:=by unfold qG;split<;>decide
def vn{t:cx}{named:Option cr}{d c:Option bN}{many:Nat}(h:(iT t named d c many).1=0):
 ∃d' c',d=some d'/\c=some c'/\named=none/\mM t=0/\ ¬jM t.ao/\d'.bF=c'.bF/\d'.ao<8/\c'.ao<8/\many<96/\
  d'.dp+d'.dq+(iT t named d c many).2<bJ/\c'.cp+c'.cq+(iT t named d c many).2<bJ/\
  ¬(has d'.ao 2/\iU d' true<(iT t named d c many).2)/\ ¬(has c'.ao 4/\iU c' false<(iT t named d c many).2):=by
 unfold iT at h⊢;by_cases h1:mM t≠0
 ·rw[ai h1] at h;exact aQ h h1
 rw[af h1] at h⊢;by_cases h2:jM t.ao
 ·rw[ai h2] at h;exact aQ h (by decide)
 rw[af h2] at h⊢;cases named with
 |some k=>exact aQ h (qz t k.asked)
 |none=>
  cases d with
  |none=>exact aQ h (show ¬(19:Int)=0 by decide)
  |some d=>
   cases c with
   |none=>exact aQ h (show ¬(20:Int)=0 by decide)
   |some c=>
    dsimp only at h⊢;by_cases h3:d.bF≠c.bF
    ·rw[ai h3] at h;exact aQ h (by decide)
    rw[af h3] at h⊢;by_cases h4:d.bF≠t.bF
    ·rw[ai h4] at h;exact aQ h (by decide)
    rw[af h4] at h⊢;by_cases h5:8<=d.ao
    ·rw[ai h5] at h;exact aQ h (by decide)
    rw[af h5] at h⊢;by_cases h6:8<=c.ao
    ·rw[ai h6] at h;exact aQ h (by decide)
    rw[af h6] at h⊢;by_cases h7:96<=many
    ·rw[ai h7] at h;exact aQ h (by decide)
    rw[af h7] at h⊢;by_cases h8:(cN t d c).2≠0
    ·rw[ai h8] at h;exact aQ h h8
    rw[af h8] at h⊢;by_cases h9:(more d true (cN t d c).1 (decide (has t.ao 2))).2≠0
    ·rw[ai h9] at h;exact aQ h h9
    rw[af h9] at h⊢;by_cases h10:(more c false (cN t d c).1 (decide (has t.ao 2))).2≠0
    ·rw[ai h10] at h;exact aQ h h10
    rw[af h10];dsimp only;refine⟨d,c,rfl,rfl,rfl,bp.1 h1,h2,bp.1 h3,by omega,by omega,by omega,?_,?_,?_,?_⟩
    ·by_cases hh:bJ<=d.dp+d.dq+(cN t d c).1
     ·exfalso;apply h9;unfold more;rw[ai rfl,ai hh];exact(show(32:Int)≠0 by decide)
     ·omega
    ·by_cases hh:bJ<=c.cp+c.cq+(cN t d c).1
     ·exfalso;apply h10;unfold more;rw[af cJ,ai hh];exact(show(32:Int)≠0 by decide)
     ·omega
    ·intro hh;apply h9;unfold more;rw[ai rfl];by_cases h0:bJ<=d.dp+d.dq+(cN t d c).1
     ·rw[ai h0];exact(show(32:Int)≠0 by decide)
     ·rw[af h0,ai hh];exact(show(33:Int)≠0 by decide)
    ·intro hh;apply h10;unfold more;rw[af cJ];by_cases h0:bJ<=c.cp+c.cq+(cN t d c).1
     ·rw[ai h0];exact(show(32:Int)≠0 by decide)
     ·rw[af h0,ai hh];exact(show(34:Int)≠0 by decide)
def rh{l:List bN}(hn:(l.map (·.id)).Nodup){a:bN}(ha:a∈l):l.find? (λx=>x.id=a.id)=some a:=by
 induction l with
 |nil=>simp at ha
 |cons x l ih=>
  simp only[dA,List.nodup_cons] at hn;rcases jX.1 ha with rfl|ha
  ·simp
  ·rw[List.find?_cons];by_cases hx:x.id=a.id
   ·exact aQ (dF.2 ⟨a,ha,hx.symm⟩) hn.1
   ·simp only[hx,decide_false];exact ih hn.2 ha
def N'{a:bN}{k:cr}(h1:k.move.bC≠a.id)(h2:k.move.aU≠a.id):full [k] a=a:=by
 rw[BL];unfold AX CE AY CF kF;simp[h1,h2]
def D8(a:bN)(b:Bool)(n:Nat)(p:Bool):(more a b n p).1.id=a.id/\(more a b n p).1.ay=a.ay:=by
 unfold more;split<;>split<;>(try exact⟨rfl,rfl⟩)<;>split<;>(try exact⟨rfl,rfl⟩)<;>split<;>exact⟨rfl,rfl⟩
def BT(a:bN)(yes:Prop)[Decidable yes]:(close a yes).id=a.id/\(close a yes).ay=a.ay:=by unfold close;split<;>exact⟨rfl,rfl⟩
def NR{d c x:bN}{t:cx}{n:Nat}{st ck:Int}(hdc:t.bC≠t.aU)(hd:d.id=t.bC)(hc:c.id=t.aU)(ry: ¬jM t.ao)(VM:d.dp+d.dq+n<bJ)(hsc:c.cp+c.cq+n<bJ)(hxd:x.id=t.bC->x=d)(hxc:x.id=t.aU->x=c)
 (Kb: ¬(has d.ao 2/\iU d true<n))(vd: ¬(has c.ao 4/\iU c false<n))(q1:has t.ao 64->has t.ao 2)(q2:has t.ao 128->has t.ao 2):
 (λy:bN=>if y.id=(close (more c false n (decide (has t.ao 2))).1 (has t.ao 128)).id then{close (more c false n (decide (has t.ao 2))).1 (has t.ao 128) with ay:=y.ay} else y)
  ((λy:bN=>if y.id=(close (more d true n (decide (has t.ao 2))).1 (has t.ao 64)).id then{close (more d true n (decide (has t.ao 2))).1 (has t.ao 64) with ay:=y.ay} else y) x)
 =full [⟨t,{t with aT:=n,ay:=st,jO:=ck},waits t⟩] x:=by
 have i1:(close (more d true n (decide (has t.ao 2))).1 (has t.ao 64)).id=t.bC:=by rw[(BT _ _).1,(D8 _ _ _ _).1,hd]
 have i2:(close (more c false n (decide (has t.ao 2))).1 (has t.ao 128)).id=t.aU:=by rw[(BT _ _).1,(D8 _ _ _ _).1,hc]
 have s1:(close (more d true n (decide (has t.ao 2))).1 (has t.ao 64)).ay=d.ay:=by rw[(BT _ _).2,(D8 _ _ _ _).2]
 have s2:(close (more c false n (decide (has t.ao 2))).1 (has t.ao 128)).ay=c.ay:=by rw[(BT _ _).2,(D8 _ _ _ _).2]
 have e4: ¬has t.ao 4:=λh=>ry (.inl h);have e8: ¬has t.ao 8:=λh=>ry (.inr h);dsimp only;rw[i1,i2];by_cases h1:x.id=t.bC
 ·have hx:=hxd h1;subst hx;rw[ai h1];rw[af (show ¬t.bC=t.aU from hdc),BL];unfold AX CE AY CF kF lK waits close more;have jW: ¬t.aU=x.id:=λh=>hdc (by rw[h,h1]);simp only[if_true,af (show ¬bJ<=x.dp+x.dq+n by omega),af Kb];by_cases hw:has t.ao 2<;>by_cases pV:has t.ao 64<;>(try exact aQ (q1 pV) hw)<;>simp[hw,pV,e8,h1.symm,jW]
 ·rw[af h1];by_cases h2:x.id=t.aU
  ·have hx:=hxc h2;subst hx;rw[ai h2,BL];unfold AX CE AY CF kF lK waits close more;have jW: ¬t.bC=x.id:=λh=>h1 h.symm;simp only[cG,if_false,af (show ¬bJ<=x.cp+x.cq+n by omega),af vd];by_cases hw:has t.ao 2<;>by_cases pV:has t.ao 128<;>(try exact aQ (q2 pV) hw)<;>simp[hw,pV,e8,h2.symm,jW]
  ·rw[af h2,N' (λh=>h1 h.symm) (λh=>h2 h.symm)]
def RT{t:cx}(h:mM t=0)(he: ¬jM t.ao):t.bC≠t.aU/\0<=t.ao/\t.ao<=255/\(has t.ao 64->has t.ao 2)/\(has t.ao 128->has t.ao 2):=by
 unfold mM at h;by_cases h1:t.ao<0\/255<t.ao
 ·rw[ai h1] at h;exact aQ h (by decide)
 rw[af h1] at h;have ht:jn t.ao:=by
  by_cases h2:t.id=0
  ·rw[ai h2] at h;exact aQ h (by decide)
  rw[af h2] at h;by_cases h3:t.id=bJ-1
  ·rw[ai h3] at h;exact aQ h (by decide)
  rw[af h3] at h;by_cases h4: ¬jn t.ao
  ·rw[ai h4] at h;exact aQ h (by decide)
  exact bp.1 h4
 have XP:∀b:Int,(b=64\/b=128)->has t.ao b->has t.ao 2:=λb hb hh=>by
  rcases ht.2.2 with h0|h0
  ·unfold has at hh;rcases hb with rfl|rfl<;>omega
  ·exact h0
 refine⟨λhdc=>?_,by omega,by omega,XP 64 (.inl rfl),XP 128 (.inr rfl)⟩;by_cases h2:t.id=0
 ·rw[ai h2] at h;exact aQ h (by decide)
 rw[af h2] at h;by_cases h3:t.id=bJ-1
 ·rw[ai h3] at h;exact aQ h (by decide)
 rw[af h3] at h;by_cases h4: ¬jn t.ao
 ·rw[ai h4] at h;exact aQ h (by decide)
 rw[af h4] at h;by_cases h5:t.ay≠0\/t.jO≠0
 ·rw[ai h5] at h;exact aQ h (by decide)
 rw[af h5] at h;by_cases h6:t.cA<0\/1073741824<t.cA\/0<t.cA/\ ¬has t.ao 2
 ·rw[ai h6] at h;exact aQ h (by decide)
 rw[af h6,af he] at h;by_cases h7:t.bC=0
 ·rw[ai h7] at h;exact aQ h (by decide)
 rw[af h7] at h;by_cases h8:t.aU=0
 ·rw[ai h8] at h;exact aQ h (by decide)
 rw[af h8,ai hdc] at h;exact aQ h (by decide)
def FX{l:List cr}{a:bN}(h0:0<=a.ao)(h:(full l a).ao<8):S (uR a.id) l=0:=by
 by_cases hs:S (uR a.id) l=0
 ·exact hs
 ·exfalso;have e:(full l a).ao=a.ao%8+8:=af hs;rw[e] at h;omega
def pJ.Jd{b:bh}{m:aA}(h:pJ b m)(id:Nat):b.named id=m.named id:=by unfold bh.named aA.named;rw[h.ax]
def bS.Uq{m:aA}(h:bS m)(id:Nat):(m.find id).map m.full=(m.find id).map (Md.full m.ax):=by
 cases hf:m.find id with
 |none=>rfl
 |some a=>rw[fF,fF,h.full (BO hf).1]
def bS.one{m:aA}(h:bS m){id:Nat}{d:bN}(hf:(m.find id).map (Md.full m.ax)=some d){a:bN}(ha:a∈m.dj)(MT:a.id=id):Md.full m.ax a=d:=by
 have:=rh h.ids ha;rw[MT] at this;unfold aA.find at hf;rw[this] at hf;simpa using hf
def pJ.move{b:bh}{m:aA}{t:cx}(hs:pJ b m)(hg:bS m):(b.move t).1=(m.move t).1/\pJ (b.move t).2 (m.move t).2/\bS (m.move t).2:=by
 have e:iT t (b.named t.id) (b.find t.bC) (b.find t.aU) b.ax.length=iT t (m.named t.id) ((m.find t.bC).map m.full) ((m.find t.aU).map m.full) m.ax.length:=by
  rw[hs.Jd,hs.find,hs.find,hg.Uq,hg.Uq,hs.ax]
 unfold bh.move aA.move;dsimp only;rw[e];by_cases hr:(iT t (m.named t.id) ((m.find t.bC).map m.full) ((m.find t.aU).map m.full) m.ax.length).1≠0
 ·rw[ai hr,ai hr];exact⟨rfl,hs,hg⟩
 rw[af hr,af hr];have T3:=bp.1 hr;obtain⟨d,c,hd,hc,hn,tR,ry,hlg,ZC,ZD,wA,VM,hsc,Kb,vd⟩:=vn T3;generalize (iT t (m.named t.id) ((m.find t.bC).map m.full) ((m.find t.aU).map m.full) m.ax.length).2=n at *;obtain⟨hdc,aiy,aix,hq1,Xw⟩:=RT tR ry;rw[hg.Uq] at hd hc;have hbd:b.find t.bC=some d:=by rw[hs.find];exact hd
 have hbc:b.find t.aU=some c:=by rw[hs.find];exact hc
 obtain⟨d0,hd0,rfl⟩:=Option.map_eq_some_iff.1 hd;obtain⟨c0,hc0,rfl⟩:=Option.map_eq_some_iff.1 hc;obtain⟨Jr,Kc⟩:=BO hd0;obtain⟨Sm,Js⟩:=BO hc0;refine⟨rfl,⟨?_,?_,?_,?_⟩,?_⟩
 ·unfold bh.Dd;rw[hbd,hbc];show((b.aB.map _).map _)=m.dj.map (Md.full (m.ax++[_]));rw[hs.aB,um,um];apply mI;intro a ha;rw[Ie];exact NR (d:=Md.full m.ax d0) (c:=Md.full m.ax c0) (x:=Md.full m.ax a) hdc Kc Js ry VM hsc (λhx=>hg.one hd ha hx) (λhx=>hg.one hc ha hx) Kb vd hq1 Xw
 ·unfold bh.Dd;rw[hbd,hbc];show b.ax++[(⟨t,{{t with aT:=n} with ay:=b.ay+1,jO:=b.clock},waits t⟩:cr)]=m.ax++[_];rw[hs.ax,hs.ay,hs.clock]
 ·unfold bh.Dd;rw[hbd,hbc];exact hs.clock
 ·unfold bh.Dd;rw[hbd,hbc];show b.ay+1=m.ay+1;rw[hs.ay]
 ·have hdz:=hg.zero d0 Jr;have hcz:=hg.zero c0 Sm;have hle:∀id(k:cr),k.move.bC=t.bC->k.move.aT=n->k.move.ao=t.ao->k.fate=waits t->AX id k+CE id k<=if t.bC=id then n else 0:=λid k e1 e2 e3 e4=>by
   have hx:k.fate=1-> ¬lK k:=λh1 h2=>by
    rw[e4] at h1;unfold waits at h1;by_cases h3:has t.ao 2
    ·exact h2.1 (by rw[e3];exact h3)
    ·rw[af h3] at h1;exact aQ h1 (by decide)
   unfold AX CE;rw[e1,e2];by_cases h1:t.bC=id
   ·by_cases h2:k.fate=1
    ·simp[h1,h2,hx h2]
    ·simp[h1,h2];split<;>omega
   ·simp[h1]
  have afi:∀id(k:cr),k.move.aU=t.aU->k.move.aT=n->k.move.ao=t.ao->k.fate=waits t->AY id k+CF id k<=if t.aU=id then n else 0:=λid k e1 e2 e3 e4=>by
   have hx:k.fate=1-> ¬lK k:=λh1 h2=>by
    rw[e4] at h1;unfold waits at h1;by_cases h3:has t.ao 2
    ·exact h2.1 (by rw[e3];exact h3)
    ·rw[af h3] at h1;exact aQ h1 (by decide)
   unfold AY CF;rw[e1,e2];by_cases h1:t.aU=id
   ·by_cases h2:k.fate=1
    ·simp[h1,h2,hx h2]
    ·simp[h1,h2];split<;>omega
   ·simp[h1]
  refine⟨hg.zero,hg.ids,hg.oS,?_,λk hk=>?_,λk hk=>?_,?_,λa ha=>?_,λa ha=>?_,λa ha=>?_⟩
  ·show((m.ax++[_]).map _).Nodup;rw[cU,List.nodup_append];refine⟨hg.names,by simp,λx hx y hy=>?_⟩;simp only[dA,uk,CX] at hy;obtain⟨k,hk,rfl⟩:=dF.1 hx;intro hxy;unfold aA.named at hn;have:=pM.1 hn k hk;simp[hxy,hy] at this
  ·rcases dY.1 hk with hk|hk
   ·exact hg.wH k hk
   ·simp only[CX] at hk;subst hk;unfold waits;by_cases h2:has t.ao 2
    ·simp only[ai h2];exact⟨by decide,by decide,by simp[h2]⟩
    ·simp only[af h2];exact⟨by decide,by decide,by simp[h2]⟩
  ·rcases dY.1 hk with hk|hk
   ·exact hg.yF k hk
   ·simp only[CX] at hk;subst hk;exact⟨hdc,dF.2 ⟨d0,Jr,Kc⟩,dF.2 ⟨c0,Sm,Js⟩⟩
  ·show(m.ax++[_]).length<=96;rw[au,pT];omega
  ·show S (AX a.id) (m.ax++[_])+S (CE a.id) (m.ax++[_])<bJ;rw[vW,vW];generalize hK:cr.mk t _ (waits t)=K;have h1:=hle a.id K (by rw[<-hK]) (by rw[<-hK]) (by rw[<-hK]) (by rw[<-hK]);have h2:=hg.yZ a ha;by_cases had:t.bC=a.id
   ·rw[ai had] at h1;have h3:=hg.one hd ha had.symm;rw[<-h3] at VM;have h4:=hg.zero a ha;have e1:(Md.full m.ax a).dp=a.dp+S (AX a.id) m.ax:=rfl;have e2:(Md.full m.ax a).dq=a.dq+S (CE a.id) m.ax:=rfl;omega
   ·rw[af had] at h1;omega
  ·show S (AY a.id) (m.ax++[_])+S (CF a.id) (m.ax++[_])<bJ;rw[vW,vW];generalize hK:cr.mk t _ (waits t)=K;have h1:=afi a.id K (by rw[<-hK]) (by rw[<-hK]) (by rw[<-hK]) (by rw[<-hK]);have h2:=hg.vA a ha;by_cases had:t.aU=a.id
   ·rw[ai had] at h1;have h3:=hg.one hc ha had.symm;rw[<-h3] at hsc;have e1:(Md.full m.ax a).cp=a.cp+S (AY a.id) m.ax:=rfl;have e2:(Md.full m.ax a).cq=a.cq+S (CF a.id) m.ax:=rfl;omega
   ·rw[af had] at h1;omega
  ·show S (uR a.id) (m.ax++[_])<=1;rw[vW];have h2:=hg.vB a ha;generalize hK:cr.mk t _ (waits t)=K;by_cases pV:kF a.id K
   ·have h3:uR a.id K=1:=ai pV;have h0:S (uR a.id) m.ax=0:=by
     rcases pV.1 with⟨_,hh⟩|⟨_,hh⟩
     ·rw[<-hK] at hh;have:=hg.one hd ha (show a.id=t.bC from hh.symm);rw[<-this] at ZC;exact FX (hg.zero a ha).2.2.2.2.1 ZC
     ·rw[<-hK] at hh;have:=hg.one hc ha (show a.id=t.aU from hh.symm);rw[<-this] at ZD;exact FX (hg.zero a ha).2.2.2.2.1 ZD
    omega
   ·have h3:uR a.id K=0:=af pV;omega
def modify_eq{α:Type}(f:α->α):∀(l:List α)(i:Nat)(h:i<l.length),l.modify i f=l.set i (f l[i])
 |[],i,h=>by simp at h
 |x::l,0,h=>by simp[List.modify]
 |x::l,i+1,h=>by
  have:=modify_eq f l i (by simpa using h);simp[List.modify_succ_cons,this]
def ended{l:List cr}{i:Nat}(hi:i<l.length){f:Int}(h1:l[i].fate=1)(hw:has l[i].move.ao 2)(hf:f=2\/f=3\/f=4)(id:Nat):
 S (AX id) (l.set i {l[i] with fate:=f})+(if l[i].move.bC=id then l[i].move.aT else 0)=S (AX id) l/\
 S (AY id) (l.set i {l[i] with fate:=f})+(if l[i].move.aU=id then l[i].move.aT else 0)=S (AY id) l/\
 S (CE id) (l.set i {l[i] with fate:=f})=S (CE id) l/\S (CF id) (l.set i {l[i] with fate:=f})=S (CF id) l/\
 S (uR id) (l.set i {l[i] with fate:=f})+(if f≠2/\(has l[i].move.ao 64/\l[i].move.bC=id\/has l[i].move.ao 128/\l[i].move.aU=id) then 1 else 0)=S (uR id) l:=by
 have a1:=IA (AX id) l i {l[i] with fate:=f} hi;have a2:=IA (AY id) l i {l[i] with fate:=f} hi;have a3:=IA (CE id) l i {l[i] with fate:=f} hi;have a4:=IA (CF id) l i {l[i] with fate:=f} hi;have a5:=IA (uR id) l i {l[i] with fate:=f} hi;have b1:AX id {l[i] with fate:=f}=0:=by unfold AX;rw[af (by rintro⟨hh,_⟩;dsimp only at hh;omega)]
 have b2:AY id {l[i] with fate:=f}=0:=by unfold AY;rw[af (by rintro⟨hh,_⟩;dsimp only at hh;omega)]
 have b3:CE id {l[i] with fate:=f}=CE id l[i]:=rfl;have b4:CF id {l[i] with fate:=f}=CF id l[i]:=rfl;have c1:AX id l[i]=if l[i].move.bC=id then l[i].move.aT else 0:=by
  unfold AX;by_cases h:l[i].move.bC=id
  ·rw[ai ⟨h1,h⟩,ai h]
  ·rw[af (λhh=>h hh.2),af h]
 have c2:AY id l[i]=if l[i].move.aU=id then l[i].move.aT else 0:=by
  unfold AY;by_cases h:l[i].move.aU=id
  ·rw[ai ⟨h1,h⟩,ai h]
  ·rw[af (λhh=>h hh.2),af h]
 rw[b1,c1] at a1;rw[b2,c2] at a2;rw[b3] at a3;rw[b4] at a4;refine⟨by omega,by omega,by omega,by omega,?_⟩;by_cases pV:has l[i].move.ao 64/\l[i].move.bC=id\/has l[i].move.ao 128/\l[i].move.aU=id
 ·have d1:uR id l[i]=1:=ai ⟨pV,.inl h1⟩;by_cases Ef:f=2
  ·have d2:uR id {l[i] with fate:=f}=1:=ai ⟨pV,.inr Ef⟩;rw[af (λhh=>hh.1 Ef)];omega
  ·have d2:uR id {l[i] with fate:=f}=0:=af (by rintro⟨_,hh⟩;dsimp only at hh;omega);rw[ai ⟨Ef,pV⟩];omega
 ·have d1:uR id l[i]=0:=af (λhh=>pV hh.1);have d2:uR id {l[i] with fate:=f}=0:=af (λhh=>pV hh.1);rw[af (λhh=>pV hh.2)];omega
def IY(d:bN)(p:cx)(n:Nat)(f:Int):(An d p n f).id=d.id/\(An d p n f).ay=d.ay:=by unfold An open_;split<;>(try exact⟨rfl,rfl⟩);split<;>exact⟨rfl,rfl⟩
def IZ(d:bN)(p:cx)(n:Nat)(f:Int):(Bm d p n f).id=d.id/\(Bm d p n f).ay=d.ay:=by unfold Bm open_;split<;>(try exact⟨rfl,rfl⟩);split<;>exact⟨rfl,rfl⟩
def KS{l:List cr}{i:Nat}(hi:i<l.length){f:Int}{n:Nat}{a:bN}(h1:l[i].fate=1)(hw:has l[i].move.ao 2)(hf:f=2\/f=3\/f=4)(jW:l[i].move.bC≠l[i].move.aU)(ha0:0<=a.ao)(ha8:a.ao<8)(pV:S (uR a.id) l<=1)
 {d c:bN}(hd:d.id=l[i].move.bC)(hc:c.id=l[i].move.aU)(hxd:a.id=l[i].move.bC->full l a=d)(hxc:a.id=l[i].move.aU->full l a=c):
 (λy:bN=>if y.id=(Bm c l[i].move n f).id then{Bm c l[i].move n f with ay:=y.ay} else y) ((λy:bN=>if y.id=(An d l[i].move n f).id then{An d l[i].move n f with ay:=y.ay} else y) (full l a))
 ={full (l.set i {l[i] with fate:=f}) a with dq:=(full l a).dq+(if f=2/\l[i].move.bC=a.id then n else 0),cq:=(full l a).cq+(if f=2/\l[i].move.aU=a.id then n else 0)}:=by
 have MT:(full l a).id=a.id:=rfl;obtain⟨e1,e2,e3,e4,e5⟩:=ended hi h1 hw hf a.id;dsimp only;rw[(IZ c _ n f).1,(IY d _ n f).1,hd,hc];generalize hk:l[i]=k at *;generalize hl:l.set i {k with fate:=f}=l' at *;by_cases Rv:a.id=k.move.bC
 ·have hx:=hxd Rv;rw[ai (show(full l a).id=k.move.bC by rw[MT];exact Rv),af (show ¬k.move.bC=k.move.aU from jW),<-hx];have aba: ¬k.move.aU=a.id:=λhh=>jW (by rw[hh,Rv]);rw[ai Rv.symm] at e1;rw[af aba] at e2;unfold An open_ full;dsimp only;by_cases h2:f=2
  ·subst h2;simp only[if_true,true_and,Rv.symm,aba,if_false,gK];rw[af (by rintro⟨hh,_⟩;exact hh rfl)] at e5;have:S (uR a.id) l'=S (uR a.id) l:=by omega
   simp only[this,e3,e4]
   congr 1<;>omega
  ·have hb:∀p:Prop,¬(f=2/\p):=λp hh=>h2 hh.1;rw[af h2,af (hb _),af (hb _)];by_cases XP:has k.move.ao 64
   ·rw[ai ⟨h2,.inl ⟨XP,Rv.symm⟩⟩] at e5;have z1:S (uR a.id) l'=0:=by omega
    have z2: ¬S (uR a.id) l=0:=by omega
    simp only[z1,z2,XP,if_true,if_false,e3,e4]
    congr 1<;>omega
   ·rw[af (by rintro⟨_,hh|hh⟩;exact XP hh.1;exact aba hh.2)] at e5;have:S (uR a.id) l'=S (uR a.id) l:=by omega
    simp only[this,XP,if_false,e3,e4]
    congr 1<;>omega
 ·rw[af (show ¬(full l a).id=k.move.bC by rw[MT];exact Rv)];have Rq: ¬k.move.bC=a.id:=λhh=>Rv hh.symm;by_cases P':a.id=k.move.aU
  ·have hx:=hxc P';rw[ai (show(full l a).id=k.move.aU by rw[MT];exact P'),<-hx];rw[af Rq] at e1;rw[ai P'.symm] at e2;unfold Bm open_ full;dsimp only;by_cases h2:f=2
   ·subst h2;simp only[if_true,true_and,P'.symm,Rq,if_false,gK];rw[af (by rintro⟨hh,_⟩;exact hh rfl)] at e5;have:S (uR a.id) l'=S (uR a.id) l:=by omega
    simp only[this,e3,e4]
    congr 1<;>omega
   ·have hb:∀p:Prop,¬(f=2/\p):=λp hh=>h2 hh.1;rw[af h2,af (hb _),af (hb _)];by_cases CC:has k.move.ao 128
    ·rw[ai ⟨h2,.inr ⟨CC,P'.symm⟩⟩] at e5;have z1:S (uR a.id) l'=0:=by omega
     have z2: ¬S (uR a.id) l=0:=by omega
     simp only[z1,z2,CC,if_true,if_false,e3,e4]
     congr 1<;>omega
    ·rw[af (by rintro⟨_,hh|hh⟩;exact Rq hh.2;exact CC hh.1)] at e5;have:S (uR a.id) l'=S (uR a.id) l:=by omega
     simp only[this,CC,if_false,e3,e4]
     congr 1<;>omega
  ·rw[af (show ¬(full l a).id=k.move.aU by rw[MT];exact P')];have abb: ¬k.move.aU=a.id:=λhh=>P' hh.symm;rw[af Rq] at e1;rw[af abb] at e2;rw[af (by rintro⟨_,hh|hh⟩;exact Rq hh.2;exact abb hh.2)] at e5;have:S (uR a.id) l'=S (uR a.id) l:=by omega
   unfold full;simp only[this,Rq,abb,and_false,if_false,gK,e3,e4]
   congr 1<;>omega
def Dr{l:List cr}{p:cr->Bool}:l.find? p=(l.findIdx? p).bind λi=>l[i]?:=by
 induction l with
 |nil=>rfl
 |cons x l ih=>
  rw[List.find?_cons,List.findIdx?_cons];cases hp:p x with
  |true=>rfl
  |false=>
   simp only[ih];cases l.findIdx? p with
   |none=>rfl
   |some i=>simp
def pJ.make{b:bh}{m:aA}{a:bN}(hs:pJ b m)(hg:bS m):(b.make a).1=(m.make a).1/\pJ (b.make a).2 (m.make a).2/\bS (m.make a).2:=by
 unfold bh.make aA.make;by_cases h1:tH a≠0
 ·rw[ai h1,ai h1];exact⟨rfl,hs,hg⟩
 rw[af h1,af h1,hs.find];cases hf:m.find a.id with
 |some x=>
  refine⟨?_,hs,hg⟩;show qG a (Md.full m.ax x)=qG a x;have hz:=hg.zero x (BO hf).1;unfold qG Md.full;dsimp only;have:(if S (uR x.id) m.ax=0 then x.ao else x.ao%8+8)/2%4=x.ao/2%4:=by split<;>omega
  rw[this]
 |none=>
  have hlen:b.aB.length=m.dj.length:=by rw[hs.aB,bY]
  dsimp only[Option.map_none];rw[hlen];by_cases h2:32<=m.dj.length
  ·rw[ai h2,ai h2];exact⟨rfl,hs,hg⟩
  rw[af h2,af h2];have tR:=bp.1 h1;have oZ:∀x∈m.dj,x.id≠a.id:=λx hx=>by
   have:=pM.1 hf x hx;simpa using this
  have hc:0<=a.ao/\a.ao<=7/\a.dp=0/\a.dq=0/\a.cp=0/\a.cq=0:=by
   unfold tH at tR;by_cases c1:a.ao<0\/7<a.ao
   ·rw[ai c1] at tR;exact aQ tR (by decide)
   rw[af c1] at tR;by_cases c2:a.id=0
   ·rw[ai c2] at tR;exact aQ tR (by decide)
   rw[af c2] at tR;by_cases c3:a.id=bJ-1
   ·rw[ai c3] at tR;exact aQ tR (by decide)
   rw[af c3] at tR;by_cases c4:has a.ao 2/\has a.ao 4
   ·rw[ai c4] at tR;exact aQ tR (by decide)
   rw[af c4] at tR;by_cases c5:a.dp≠0\/a.dq≠0\/a.cp≠0\/a.cq≠0\/a.ay≠0
   ·rw[ai c5] at tR;exact aQ tR (by decide)
   omega
  have z:∀k∈m.ax,k.move.bC≠a.id/\k.move.aU≠a.id:=λk hk=>by
   obtain⟨_,s1,s2⟩:=hg.yF k hk;obtain⟨x,hx,hxe⟩:=dF.1 s1;obtain⟨y,hy,hye⟩:=dF.1 s2;exact⟨λh=>oZ x hx (by rw[hxe,h]),λh=>oZ y hy (by rw[hye,h])⟩
  have S0:∀f:cr->Nat,(∀k∈m.ax,f k=0)->S f m.ax=0:=λf hf=>by
   have:∀l:List cr,(∀k∈l,f k=0)->S f l=0:=λl=>by
    induction l with
    |nil=>intro _;rfl
    |cons x l ih=>intro h;rw[se,h x (by simp),ih λk hk=>h k (by simp[hk])]
   exact this _ hf
  have z1:S (AX a.id) m.ax=0:=S0 _ λk hk=>af (λhh=>(z k hk).1 hh.2);have z2:S (AY a.id) m.ax=0:=S0 _ λk hk=>af (λhh=>(z k hk).2 hh.2);have z3:S (CE a.id) m.ax=0:=S0 _ λk hk=>af (λhh=>(z k hk).1 hh.2);have z4:S (CF a.id) m.ax=0:=S0 _ λk hk=>af (λhh=>(z k hk).2 hh.2);have z5:S (uR a.id) m.ax=0:=S0 _ λk hk=>af (λhh=>by
   rcases hh.1 with h|h
   ·exact(z k hk).1 h.2
   ·exact(z k hk).2 h.2)
  refine⟨rfl,⟨?_,hs.ax,hs.clock,by show b.ay+1=m.ay+1;rw[hs.ay]⟩,?_⟩
  ·show b.aB++[_]=(m.dj++[_]).map (Md.full m.ax);rw[cU,hs.aB,hs.ay]
   congr 1
   simp only[dA,uk]
   congr 1
   unfold Md.full;dsimp only;rw[z1,z2,z3,z4,z5,ai rfl];simp
  ·have key:∀x∈m.dj++[({a with ay:=m.ay+1,ao:=a.ao/2* 2}:bN)],x∈m.dj\/x={a with ay:=m.ay+1,ao:=a.ao/2* 2}:=λx hx=>by
    rcases dY.1 hx with h|h
    ·exact .inl h
    ·exact .inr (by simpa using h)
   refine⟨λx hx=>?_,?_,?_,hg.names,hg.wH,λk hk=>?_,hg.some_,λx hx=>?_,λx hx=>?_,λx hx=>?_⟩
   ·rcases key x hx with h|rfl
    ·exact hg.zero x h
    ·exact⟨hc.2.2.1,hc.2.2.2.1,hc.2.2.2.2.1,hc.2.2.2.2.2,by show 0<=a.ao/2* 2;omega,by show a.ao/2* 2<8;omega⟩
   ·show((m.dj++[_]).map _).Nodup;rw[cU,List.nodup_append];refine⟨hg.ids,by simp,λx hx y hy=>?_⟩;simp only[dA,uk,CX] at hy;obtain⟨u,hu,rfl⟩:=dF.1 hx;rw[hy];exact oZ u hu
   ·show(m.dj++[_]).length<=32;rw[au,pT];omega
   ·obtain⟨s0,s1,s2⟩:=hg.yF k hk;refine⟨s0,?_,?_⟩
    ·show _∈(m.dj++[_]).map _;rw[cU];exact List.mem_append_left _ s1
    ·show _∈(m.dj++[_]).map _;rw[cU];exact List.mem_append_left _ s2
   ·rcases key x hx with h|rfl
    ·exact hg.yZ x h
    ·show S (AX a.id) m.ax+S (CE a.id) m.ax<bJ;rw[z1,z3];decide
   ·rcases key x hx with h|rfl
    ·exact hg.vA x h
    ·show S (AY a.id) m.ax+S (CF a.id) m.ax<bJ;rw[z2,z4];decide
   ·rcases key x hx with h|rfl
    ·exact hg.vB x h
    ·show S (uR a.id) m.ax<=1;rw[z5];decide
def aA.TM{m:aA}{id:Nat}{k:cr}(h:m.named id=some k):∃i,m.name id=some i/\∃hi:i<m.ax.length,m.ax[i]=k/\k.move.id=id:=by
 unfold aA.named at h;rw[Dr] at h;unfold aA.name;cases hx:m.ax.findIdx? (λk=>decide (k.move.id=id)) with
 |none=>rw[hx] at h;cases h
 |some i=>
  rw[hx] at h;simp only[Option.bind_some] at h;obtain⟨hi,hk⟩:=av.1 h;refine⟨i,rfl,hi,hk,?_⟩;have:=(List.findIdx?_eq_some_iff_getElem.1 hx);obtain⟨_,hp,_⟩:=this;rw[hk] at hp;simpa using hp
def aA.Ra{m:aA}{id:Nat}(h:m.named id=none):m.name id=none:=by
 unfold aA.named at h;rw[Dr] at h;unfold aA.name;cases hx:m.ax.findIdx? (λk=>decide (k.move.id=id)) with
 |none=>rfl
 |some i=>
  rw[hx] at h;simp only[Option.bind_some] at h;have:=(List.findIdx?_eq_some_iff_getElem.1 hx).1;rw[aj this] at h;cases h
def Q'{l:List cr}(hn:(l.map (·.move.id)).Nodup){i j:Nat}(hi:i<l.length)(hj:j<l.length)(h:l[i].move.id=l[j].move.id):i=j:=by
 have e1:(l.map (·.move.id))[i]?=some (l[i].move.id):=by rw[dU,aj hi];rfl
 have e2:(l.map (·.move.id))[j]?=some (l[i].move.id):=by rw[dU,aj hj,h];rfl
 exact(List.getElem?_inj (by simpa using hi) hn).1 (e1.trans e2.symm)
def LX{l:List cr}(hn:(l.map (·.move.id)).Nodup){i:Nat}(hi:i<l.length)(h1:l[i].fate=1)(f:Int):(l.map λk=>if k.move.id=l[i].move.id/\k.fate=1 then{k with fate:=f} else k)=l.set i {l[i] with fate:=f}:=by
 apply oz;intro j;rw[dU,cW];by_cases MS:i=j
 ·subst MS;rw[aj hi,ai rfl,ai hi,fF,ai ⟨rfl,h1⟩]
 ·rw[af MS];cases hj:l[j]? with
  |none=>rfl
  |some k=>
   obtain⟨T9,hk⟩:=av.1 hj;rw[fF,af];rintro⟨hh,_⟩;rw[<-hk] at hh;exact MS (Q' hn hi T9 hh.symm)
def qb{m:aA}{i:Nat}(hi:i<m.ax.length)(f:Int):(m.eS i f).ax=m.ax.set i {m.ax[i] with fate:=f}:=by
 unfold aA.eS;rw[modify_eq _ _ _ hi]
def bS.eS{m:aA}(hg:bS m){i:Nat}(hi:i<m.ax.length)(h1:m.ax[i].fate=1){f:Int}(hf:f=2\/f=3\/f=4):bS (m.eS i f):=by
 have hk:=qb (m:=m) hi f;have qe:=cb hi;have hw:has m.ax[i].move.ao 2:=(hg.wH _ qe).2.2.2 (by omega);have aih:(m.eS i f).dj=m.dj:=rfl;have key:∀k∈(m.eS i f).ax,∃k0∈m.ax,k.move=k0.move/\k.asked=k0.asked/\(k=k0\/k.fate=f/\k0.fate=1):=λk P6=>by
  rw[hk] at P6;rcases fm P6 with h|h
  ·exact⟨k,h,rfl,rfl,.inl rfl⟩
  ·subst h;exact⟨m.ax[i],qe,rfl,rfl,.inr ⟨rfl,h1⟩⟩
 refine⟨hg.zero,hg.ids,hg.oS,?_,λk P6=>?_,λk P6=>?_,?_,λa ha=>?_,λa ha=>?_,λa ha=>?_⟩
 ·rw[hk,List.map_set];have:m.ax[i].move.id=(m.ax.map (·.move.id))[i]'(by simpa using hi):=by simp
  have e:(m.ax.map (·.move.id)).set i ({m.ax[i] with fate:=f}:cr).move.id=m.ax.map (·.move.id):=by
   show(m.ax.map (·.move.id)).set i m.ax[i].move.id=_;rw[this,List.set_getElem_self]
  rw[e];exact hg.names
 ·obtain⟨k0,h0,e1,e2,e3⟩:=key k P6;have:=hg.wH k0 h0;rcases e3 with rfl|⟨e3,e4⟩
  ·exact this
  ·rw[e1];have h2:=this.2.2.2 (by omega);exact⟨by omega,by omega,λ_=>by omega,λ_=>h2⟩
 ·obtain⟨k0,h0,e1,e2,e3⟩:=key k P6;rw[e1];exact hg.yF k0 h0
 ·rw[hk,iH];exact hg.some_
 ·have:=hg.yZ a ha;obtain⟨e1,e2,e3,e4,e5⟩:=ended hi h1 hw hf a.id;rw[hk];omega
 ·have:=hg.vA a ha;obtain⟨e1,e2,e3,e4,e5⟩:=ended hi h1 hw hf a.id;rw[hk];omega
 ·have:=hg.vB a ha;obtain⟨e1,e2,e3,e4,e5⟩:=ended hi h1 hw hf a.id;rw[hk];omega
def pJ.release{b:bh}{m:aA}(hs:pJ b m)(hg:bS m){i:Nat}(hi:i<m.ax.length)(h1:m.ax[i].fate=1){f:Int}(hf:f=3\/f=4)(n:Nat):pJ (b.release m.ax[i].move n f) (m.eS i f):=by
 have qe:=cb hi;have hw:has m.ax[i].move.ao 2:=(hg.wH _ qe).2.2.2 (by omega);obtain⟨jW,hd,hc⟩:=hg.yF _ qe;obtain⟨d0,Jr,Kc⟩:=dF.1 hd;obtain⟨c0,Sm,Js⟩:=dF.1 hc;have fd:b.find m.ax[i].move.bC=some (Md.full m.ax d0):=by
  rw[hs.find];unfold aA.find;rw[<-Kc,rh hg.ids Jr];rfl
 have fc:b.find m.ax[i].move.aU=some (Md.full m.ax c0):=by
  rw[hs.find];unfold aA.find;rw[<-Js,rh hg.ids Sm];rfl
 unfold bh.release;rw[fd,fc];have hk:=qb (m:=m) hi f;refine⟨?_,?_,hs.clock,hs.ay⟩
 ·show((b.aB.map _).map _)=m.dj.map (Md.full (m.eS i f).ax);rw[hk,hs.aB,um,um];apply mI;intro a ha;have hz:=hg.zero a ha;have:=KS (l:=m.ax) (n:=n) (a:=a) (d:=Md.full m.ax d0) (c:=Md.full m.ax c0) hi h1 hw (.inr hf) jW hz.2.2.2.2.1 hz.2.2.2.2.2 (hg.vB a ha) Kc Js
   (λh=>by
    have e:(m.find m.ax[i].move.bC).map (Md.full m.ax)=some (Md.full m.ax d0):=by rw[<-hs.find];exact fd
    exact hg.one e ha h)
   (λh=>by
    have e:(m.find m.ax[i].move.aU).map (Md.full m.ax)=some (Md.full m.ax c0):=by rw[<-hs.find];exact fc
    exact hg.one e ha h)
  apply Eq.trans this;have h2: ¬f=2:=by omega
  obtain⟨e1,e2,e3,e4,e5⟩:=ended hi h1 hw (.inr hf) a.id;rw[af (λhh=>h2 hh.1),af (λhh=>h2 hh.1)];unfold Md.full;dsimp only;rw[e3,e4]
  rfl
 ·show(b.ax.map _)=_;rw[hs.ax,hk];exact LX hg.names hi h1 f
def L3{t:cx}{named:Option cr}{k:cr}{d1 c1 d2 c2:Bool}{many:Nat}(h:has k.move.ao 2-> ¬1<k.fate->d1=d2/\c1=c2):kM t named (some k) d1 c1 many=kM t named (some k) d2 c2 many:=by
 unfold kM;split
 ·rfl
 split
 ·rfl
 split
 ·rfl
 ·dsimp only;split
  ·rfl
  rename_i h2;split
  ·rfl
  split
  ·rfl
  rename_i h3;obtain⟨e1,e2⟩:=h (bp.1 h2) h3;rw[e1,e2]
def F4{t:cx}{named:Option cr}{k:cr}{d c:Bool}{many:Nat}(h:kM t named (some k) d c many=0)(hk:0<=k.fate):named=none/\mM t=0/\jM t.ao/\has k.move.ao 2/\ ¬1<k.fate/\ ¬mA t k.move/\many<96:=by
 unfold kM at h;by_cases h1:mM t≠0
 ·rw[ai h1] at h;exact aQ h h1
 rw[af h1] at h;by_cases h2: ¬jM t.ao
 ·rw[ai h2] at h;exact aQ h (by decide)
 rw[af h2] at h;cases named with
 |some x=>exact aQ h (qz t x.asked)
 |none=>
  dsimp only at h;by_cases h3: ¬has k.move.ao 2
  ·rw[ai h3] at h;exact aQ h (by decide)
  rw[af h3] at h;by_cases h4:fP t k.move
  ·rw[ai h4] at h;exact aQ h (by decide)
  rw[af h4] at h;by_cases h5:1<k.fate
  ·rw[ai h5] at h;omega
  rw[af h5] at h;by_cases h6:mA t k.move
  ·rw[ai h6] at h;exact aQ h (by decide)
  rw[af h6] at h;by_cases h7:has t.ao 4/\d=true
  ·rw[ai h7] at h;exact aQ h (by decide)
  rw[af h7] at h;by_cases h8:has t.ao 4/\c=true
  ·rw[ai h8] at h;exact aQ h (by decide)
  rw[af h8] at h;by_cases h9:96<=many
  ·rw[ai h9] at h;exact aQ h (by decide)
  exact⟨rfl,bp.1 h1,bp.1 h2,bp.1 h3,h5,h6,by omega⟩
def Mf{t:cx}(h:mM t=0)(he:jM t.ao): ¬has t.ao 2/\(has t.ao 8↔ ¬has t.ao 4)/\ ¬has t.ao 64/\ ¬has t.ao 128:=by
 unfold mM at h;by_cases h1:t.ao<0\/255<t.ao
 ·rw[ai h1] at h;exact aQ h (by decide)
 rw[af h1] at h;by_cases h2:t.id=0
 ·rw[ai h2] at h;exact aQ h (by decide)
 rw[af h2] at h;by_cases h3:t.id=bJ-1
 ·rw[ai h3] at h;exact aQ h (by decide)
 rw[af h3] at h;by_cases h4: ¬jn t.ao
 ·rw[ai h4] at h;exact aQ h (by decide)
 have h4:=bp.1 h4;unfold jn at h4;unfold jM at h4 he;obtain⟨g1,g2,g3⟩:=h4;refine⟨λh2=>?_,⟨λh8 h4=>g1 (.inr (.inr ⟨h4,h8⟩)),λh4=>he.resolve_left h4⟩,λXP=>?_,λCC=>?_⟩
 ·rcases he with he|he
  ·exact g1 (.inl ⟨h2,he⟩)
  ·exact g1 (.inr (.inl ⟨h2,he⟩))
 ·have: ¬16<=t.ao:=λhh=>g2 ⟨he,hh⟩;unfold has at XP;omega
 ·have: ¬16<=t.ao:=λhh=>g2 ⟨he,hh⟩;unfold has at CC;omega
def Dt{b:bh}{m:aA}(hs:pJ b m)(hg:bS m){i:Nat}(hi:i<m.ax.length)(h1:m.ax[i].fate=1){id:Nat}{F:Int}
 (MT:id=m.ax[i].move.bC/\F=64\/id=m.ax[i].move.aU/\F=128):b.mL id (has m.ax[i].move.ao F)=m.closed id i:=by
 have qe:=cb hi;have hw:has m.ax[i].move.ao 2:=(hg.wH _ qe).2.2.2 (by omega);obtain⟨jW,hd,hc⟩:=hg.yF _ qe;have AV:id∈m.dj.map (·.id):=by
  rcases MT with⟨h,_⟩|⟨h,_⟩<;>rw[h]<;>assumption
 obtain⟨a,ha,hai⟩:=dF.1 AV;have hfm:m.find id=some a:=by unfold aA.find;rw[<-hai];exact rh hg.ids ha
 have hz:=hg.zero a ha;have hg3:=hg.eS hi h1 (f:=3) (.inr (.inl rfl));have Zz:=qb (m:=m) hi 3;have hff:=hg3.full (a:=a) ha;unfold aA.full at hff;have e1:m.closed id i=decide (8<=(Md.full (m.eS i 3).ax a).ao):=by
  unfold aA.closed;rw[hfm];dsimp only;have:(m.ax.modify i λk=>{k with fate:=3})=(m.eS i 3).ax:=rfl;rw[this,hff]
 have e2:b.mL id (has m.ax[i].move.ao F)=decide (8<=(Md.full m.ax a).ao/\ ¬has m.ax[i].move.ao F):=by
  unfold bh.mL;rw[hs.find,hfm]
  rfl
 rw[e1,e2,decide_eq_decide];have Jq:∀l,8<=(Md.full l a).ao↔S (uR a.id) l≠0:=λl=>by
  by_cases h0:S (uR a.id) l=0
  ·have:(Md.full l a).ao=a.ao:=ai h0;rw[this];exact⟨λh=>by omega,λh=>aQ h0 h⟩
  ·have:(Md.full l a).ao=a.ao%8+8:=af h0;rw[this];exact⟨λ_=>h0,λ_=>by omega⟩
 rw[Jq,Jq,Zz];obtain⟨_,_,_,_,e5⟩:=ended hi h1 hw (f:=3) (.inr (.inl rfl)) a.id;have pV:=hg.vB a ha;rcases MT with⟨h,rfl⟩|⟨h,rfl⟩
 ·have Rv:m.ax[i].move.bC=a.id:=by rw[hai,h]
  have P': ¬m.ax[i].move.aU=a.id:=λhh=>jW (by rw[Rv,hh]);by_cases hF:has m.ax[i].move.ao 64
  ·rw[ai ⟨by decide,.inl ⟨hF,Rv⟩⟩] at e5;exact⟨λhh=>aQ hF hh.2,λhh=>aQ (show S (uR a.id) _=0 by omega) hh⟩
  ·rw[af (by rintro⟨_,hh|hh⟩;exact hF hh.1;exact P' hh.2)] at e5;exact⟨λhh=>by have:=hh.1;omega,λhh=>⟨by omega,hF⟩⟩
 ·have P':m.ax[i].move.aU=a.id:=by rw[hai,h]
  have Rv: ¬m.ax[i].move.bC=a.id:=λhh=>jW (by rw[hh,P']);by_cases hF:has m.ax[i].move.ao 128
  ·rw[ai ⟨by decide,.inr ⟨hF,P'⟩⟩] at e5;exact⟨λhh=>aQ hF hh.2,λhh=>aQ (show S (uR a.id) _=0 by omega) hh⟩
  ·rw[af (by rintro⟨_,hh|hh⟩;exact Rv hh.2;exact hF hh.1)] at e5;exact⟨λhh=>by have:=hh.1;omega,λhh=>⟨by omega,hF⟩⟩
def pJ.oT{b:bh}{m:aA}{t:cx}(hs:pJ b m)(hg:bS m):(b.oT t).1=(m.oT t).1/\pJ (b.oT t).2 (m.oT t).2/\bS (m.oT t).2:=by
 unfold bh.oT aA.oT;rw[hs.Jd,hs.Jd,hs.ax];cases hp:m.named t.pending with
 |none=>
  rw[aA.Ra hp];exact⟨rfl,hs,hg⟩
 |some k=>
  obtain⟨i,hn,hi,hk,_⟩:=aA.TM hp;rw[hn];dsimp only;rw[aj hi,hk];dsimp only;have qe:k∈m.ax:=by rw[<-hk];exact cb hi
  have hft:=hg.wH k qe;have ady:kM t (m.named t.id) (some k) (b.mL k.move.bC (has k.move.ao 64)) (b.mL k.move.aU (has k.move.ao 128)) m.ax.length=kM t (m.named t.id) (some k) (m.closed k.move.bC i) (m.closed k.move.aU i) m.ax.length:=by
   refine L3 (λh2 h3=>?_);have h1:m.ax[i].fate=1:=by rw[hk];have:=hft.2.2.1 h2;omega
   have c1:=Dt hs hg hi h1 (id:=k.move.bC) (F:=64) (by rw[hk];exact .inl ⟨rfl,rfl⟩);have c2:=Dt hs hg hi h1 (id:=k.move.aU) (F:=128) (by rw[hk];exact .inr ⟨rfl,rfl⟩);rw[hk] at c1 c2;exact⟨c1,c2⟩
  rw[ady];by_cases hr:kM t (m.named t.id) (some k) (m.closed k.move.bC i) (m.closed k.move.aU i) m.ax.length≠0
  ·rw[ai hr,ai hr];exact⟨rfl,hs,hg⟩
  rw[af hr,af hr];obtain⟨P4,tR,ry,hw,hfa,zG,wA⟩:=F4 (bp.1 hr) hft.1;have h1:m.ax[i].fate=1:=by rw[hk];have:=hft.2.2.1 hw;omega
  obtain⟨f2,f8,f64,f128⟩:=Mf tR ry;have hf:dP t=2\/dP t=3:=by unfold dP;split<;>simp
  have hf':dP t=2\/dP t=3\/dP t=4:=by rcases hf with h|h<;>simp[h]
  have Ef:dP t=2↔has t.ao 4:=by unfold dP;split<;>simp_all
  have MW:=hg.eS hi h1 hf';have XD:=qb (m:=m) hi (dP t);obtain⟨jW,hd,hc⟩:=hg.yF k qe;obtain⟨d0,Jr,Kc⟩:=dF.1 hd;obtain⟨c0,Sm,Js⟩:=dF.1 hc;have fd:b.find k.move.bC=some (Md.full m.ax d0):=by
   rw[hs.find];unfold aA.find;rw[<-Kc,rh hg.ids Jr];rfl
  have fc:b.find k.move.aU=some (Md.full m.ax c0):=by
   rw[hs.find];unfold aA.find;rw[<-Js,rh hg.ids Sm];rfl
  have r1:∀id st ck,AX id ⟨t,{nL t k.move with ay:=st,jO:=ck},0⟩=0:=λid st ck=>af (λhh=>aQ hh.1 (show ¬(0:Int)=1 by decide));have r2:∀id st ck,AY id ⟨t,{nL t k.move with ay:=st,jO:=ck},0⟩=0:=λid st ck=>af (λhh=>aQ hh.1 (show ¬(0:Int)=1 by decide));have rp:∀st ck,lK ⟨t,{nL t k.move with ay:=st,jO:=ck},0⟩↔dP t=2:=λst ck=>by
   rw[Ef];show(¬has t.ao 2/\ ¬has t.ao 8)↔_
   constructor
   ·rintro⟨_,hh⟩;by_cases h4:has t.ao 4
    ·exact h4
    ·exact aQ (f8.2 h4) hh
   ·intro h4;exact⟨f2,λh8=>f8.1 h8 h4⟩
  have r3:∀id st ck,CE id ⟨t,{nL t k.move with ay:=st,jO:=ck},0⟩=if dP t=2/\k.move.bC=id then dw t k.move else 0:=λid st ck=>by
   unfold CE;by_cases h:dP t=2/\k.move.bC=id
   ·rw[ai h,ai ⟨(rp st ck).2 h.1,h.2⟩];rfl
   ·rw[af h,af (λhh=>h ⟨(rp st ck).1 hh.1,hh.2⟩)]
  have r4:∀id st ck,CF id ⟨t,{nL t k.move with ay:=st,jO:=ck},0⟩=if dP t=2/\k.move.aU=id then dw t k.move else 0:=λid st ck=>by
   unfold CF;by_cases h:dP t=2/\k.move.aU=id
   ·rw[ai h,ai ⟨(rp st ck).2 h.1,h.2⟩];rfl
   ·rw[af h,af (λhh=>h ⟨(rp st ck).1 hh.1,hh.2⟩)]
  have r5:∀id st ck,uR id ⟨t,{nL t k.move with ay:=st,jO:=ck},0⟩=0:=λid st ck=>af (λhh=>by
   rcases hh.1 with h|h
   ·exact f64 h.1
   ·exact f128 h.1)
  have XN:dP t=2->dw t k.move<=k.move.aT:=λh2=>by
   have h4:=Ef.1 h2;by_cases cj:k.move.aT<dw t k.move
   ·exact aQ (.inl ⟨h4,cj⟩) zG
   ·omega
  refine⟨rfl,⟨?_,?_,?_,?_⟩,?_⟩
  ·unfold bh.release;rw[fd,fc];show((b.aB.map _).map _)=m.dj.map (Md.full ((m.eS i (dP t)).ax++[_]));rw[XD,hs.aB,um,um];apply mI;intro a ha;have hz:=hg.zero a ha;have:=KS (l:=m.ax) (n:=dw t k.move) (a:=a) (d:=Md.full m.ax d0) (c:=Md.full m.ax c0) hi h1 (by rw[hk];exact hw) hf' (by rw[hk];exact jW) hz.2.2.2.2.1 hz.2.2.2.2.2 (hg.vB a ha) (by rw[hk];exact Kc) (by rw[hk];exact Js)
    (λh=>by
     rw[hk] at h
     have e:(m.find k.move.bC).map (Md.full m.ax)=some (Md.full m.ax d0):=by rw[<-hs.find];exact fd
     exact hg.one e ha h)
    (λh=>by
     rw[hk] at h
     have e:(m.find k.move.aU).map (Md.full m.ax)=some (Md.full m.ax c0):=by rw[<-hs.find];exact fc
     exact hg.one e ha h)
   rw[hk] at this;apply Eq.trans this;obtain⟨e1,e2,e3,e4,e5⟩:=ended hi h1 (by rw[hk];exact hw) hf' a.id;rw[hk] at e3 e4;rw[Ie,BL,r1,r2,r3,r4,hk];have MT:(Md.full (m.ax.set i {k with fate:=dP t}) a).id=a.id:=rfl;rw[MT];have afg: ¬kF a.id ⟨t,{nL t k.move with ay:=(m.eS i (dP t)).ay+1,jO:=(m.eS i (dP t)).clock},0⟩:=λhh=>by
    rcases hh.1 with h|h
    ·exact f64 h.1
    ·exact f128 h.1
   rw[af afg];have q1:(Md.full m.ax a).dq=a.dq+S (CE a.id) m.ax:=rfl;have q2:(Md.full m.ax a).cq=a.cq+S (CF a.id) m.ax:=rfl;rw[q1,q2,<-e3,<-e4]
   rfl
  ·unfold bh.release;rw[fd,fc];show(b.ax.map _)++[_]=(m.eS i (dP t)).ax++[_];have hms:(m.eS i (dP t)).ay=m.ay:=rfl;have hmc:(m.eS i (dP t)).clock=m.clock:=rfl;rw[XD,hs.ax,hms,hmc]
   congr 1
   ·have:=LX hg.names hi h1 (dP t);rw[hk] at this⊢;exact this
   ·show[(⟨t,{nL t k.move with ay:=b.ay+1,jO:=b.clock},0⟩:cr)]=_;rw[hs.ay,hs.clock]
  ·unfold bh.release;rw[fd,fc];exact hs.clock
  ·unfold bh.release;rw[fd,fc];show b.ay+1=m.ay+1;rw[hs.ay]
  ·refine⟨MW.zero,MW.ids,MW.oS,?_,λx hx=>?_,λx hx=>?_,?_,λa ha=>?_,λa ha=>?_,λa ha=>?_⟩
   ·show(((m.eS i (dP t)).ax++[_]).map _).Nodup;rw[cU,List.nodup_append];refine⟨MW.names,by simp,λx hx y hy=>?_⟩;simp only[dA,uk,CX] at hy;rw[XD,List.map_set] at hx;have e:(m.ax.map (·.move.id)).set i ({m.ax[i] with fate:=dP t}:cr).move.id=m.ax.map (·.move.id):=by
     have:m.ax[i].move.id=(m.ax.map (·.move.id))[i]'(by simpa using hi):=by simp
     show(m.ax.map (·.move.id)).set i m.ax[i].move.id=_;rw[this,List.set_getElem_self]
    rw[e] at hx;obtain⟨z,hz,rfl⟩:=dF.1 hx;intro hxy;unfold aA.named at P4;have:=pM.1 P4 z hz;rw[hy] at hxy;have h5:z.move.id=t.id:=hxy;simp[h5] at this
   ·rcases dY.1 hx with hx|hx
    ·exact MW.wH x hx
    ·simp only[CX] at hx;subst hx;refine⟨by show(0:Int)<=0;decide,by show(0:Int)<=4;decide,?_⟩;show has t.ao 2↔(1:Int)<=0;exact⟨λh=>aQ h f2,λh=>aQ h (by decide)⟩
   ·rcases dY.1 hx with hx|hx
    ·exact MW.yF x hx
    ·simp only[CX] at hx;subst hx;exact⟨jW,hd,hc⟩
   ·show((m.eS i (dP t)).ax++[_]).length<=96;rw[au,pT,XD,iH];omega
   ·show S (AX a.id) ((m.eS i (dP t)).ax++[_])+S (CE a.id) ((m.eS i (dP t)).ax++[_])<bJ;rw[vW,vW,r1,r3,XD];obtain⟨e1,e2,e3,e4,e5⟩:=ended hi h1 (by rw[hk];exact hw) hf' a.id;have:=hg.yZ a ha;rw[hk] at e1 e3;rw[hk];by_cases hq:dP t=2/\k.move.bC=a.id
    ·have:=XN hq.1;rw[ai hq.2] at e1;rw[ai hq];omega
    ·rw[af hq];omega
   ·show S (AY a.id) ((m.eS i (dP t)).ax++[_])+S (CF a.id) ((m.eS i (dP t)).ax++[_])<bJ;rw[vW,vW,r2,r4,XD];obtain⟨e1,e2,e3,e4,e5⟩:=ended hi h1 (by rw[hk];exact hw) hf' a.id;have:=hg.vA a ha;rw[hk] at e2 e4;rw[hk];by_cases hq:dP t=2/\k.move.aU=a.id
    ·have:=XN hq.1;rw[ai hq.2] at e2;rw[ai hq];omega
    ·rw[af hq];omega
   ·show S (uR a.id) ((m.eS i (dP t)).ax++[_])<=1;rw[vW,r5,XD];obtain⟨e1,e2,e3,e4,e5⟩:=ended hi h1 (by rw[hk];exact hw) hf' a.id;have:=hg.vB a ha;rw[hk] at e5;rw[hk];omega
def pJ.lO{b:bh}{m:aA}{t:cx}(hs:pJ b m)(hg:bS m):(b.lO t).1=(m.lO t).1/\pJ (b.lO t).2 (m.lO t).2/\bS (m.lO t).2:=by
 unfold bh.lO aA.lO;split
 ·exact hs.oT hg
 ·exact hs.move hg
def LY{m:aA}{i:Nat}(hi:i<m.ax.length)(clock:Int):((m.eS i 4).ax.map λk=>if nr clock k then{k with fate:=4} else k)=(m.ax.map λk=>if nr clock k then{k with fate:=4} else k)\/ ¬nr clock m.ax[i]:=by
 by_cases ho:nr clock m.ax[i]
 ·left
  rw[qb hi];apply oz;intro j;rw[dU,dU,cW];by_cases MS:i=j
  ·subst MS;rw[ai rfl,ai hi,aj hi,fF,fF,ai ho];rw[af (by rintro⟨hh,_⟩;exact aQ hh (show ¬(4:Int)=1 by decide))]
  ·rw[af MS]
 ·exact .inr ho
def LZ{m:aA}{clock:Int}(h:∀k∈m.ax,¬nr clock k):(m.ax.map λk=>if nr clock k then{k with fate:=4} else k)=m.ax:=by
 have:m.ax.map (λk=>if nr clock k then{k with fate:=4} else k)=m.ax.map id:=mI λk hk=>af (h k hk);rw[this,List.map_id]
section
variable {α σ τ:Type}
def bI(linked:α->Bool):List α->Nat×Bool
 |[]=>(0,false)
 |x::l=>if linked x then((bI linked l).1+1,(bI linked l).2) else(1,true)
def gL(f:σ->α->Int×σ):σ->List α->Nat->Option (Nat×Int)×σ
 |s,[],_=>(none,s)
 |s,x::l,i=>if(f s x).1≠0 then(some (i,(f s x).1),s) else gL f (f s x).2 l (i+1)
def ga(n:Nat):Option (Nat×Int)->List Int
 |none=>bj n 0
 |some (i,c)=>(bj n 1).set i c
def eW(f:σ->α->Int×σ)(linked:α->Bool):Nat->σ->List α->List Int×σ
 |0,s,_=>([],s)
 |_+1,s,[]=>([],s)
 |fuel+1,s,x::l=>
  if(bI linked (x::l)).2=false then(ga (bI linked (x::l)).1 (some ((bI linked (x::l)).1-1,2)),s)
  else match gL f s ((x::l).take (bI linked (x::l)).1) 0 with
   |(none,s')=>(ga (bI linked (x::l)).1 none++(eW f linked fuel s' ((x::l).drop (bI linked (x::l)).1)).1,(eW f linked fuel s' ((x::l).drop (bI linked (x::l)).1)).2)
   |(some e,_)=>(ga (bI linked (x::l)).1 (some e)++(eW f linked fuel s ((x::l).drop (bI linked (x::l)).1)).1,(eW f linked fuel s ((x::l).drop (bI linked (x::l)).1)).2)
def Im{f:σ->α->Int×σ}{g:τ->α->Int×τ}{R:σ->τ->Prop}(h:∀s t x,R s t->(f s x).1=(g t x).1/\R (f s x).2 (g t x).2):
 ∀(l:List α)(s:σ)(t:τ)(i:Nat),R s t->(gL f s l i).1=(gL g t l i).1/\((gL f s l i).1=none->R (gL f s l i).2 (gL g t l i).2)
 |[],s,t,i,hr=>⟨rfl,λ_=>hr⟩
 |x::l,s,t,i,hr=>by
  obtain⟨h1,h2⟩:=h s t x hr;unfold gL;rw[h1];by_cases h0:(g t x).1≠0
  ·rw[ai h0,ai h0];exact⟨rfl,λhh=>by cases hh⟩
  ·rw[af h0,af h0];exact Im h l _ _ _ h2
def Bi{f:σ->α->Int×σ}{g:τ->α->Int×τ}{R:σ->τ->Prop}(linked:α->Bool)(h:∀s t x,R s t->(f s x).1=(g t x).1/\R (f s x).2 (g t x).2):
 ∀(n:Nat)(l:List α)(s:σ)(t:τ),R s t->(eW f linked n s l).1=(eW g linked n t l).1/\R (eW f linked n s l).2 (eW g linked n t l).2
 |0,l,s,t,hr=>⟨rfl,hr⟩
 |n+1,[],s,t,hr=>⟨rfl,hr⟩
 |n+1,x::l,s,t,hr=>by
  unfold eW;by_cases hw:(bI linked (x::l)).2=false
  ·rw[ai hw,ai hw];exact⟨rfl,hr⟩
  rw[af hw,af hw];obtain⟨e1,e2⟩:=Im h ((x::l).take (bI linked (x::l)).1) s t 0 hr;cases hf:gL f s ((x::l).take (bI linked (x::l)).1) 0 with
  |mk o s'=>
   cases hg:gL g t ((x::l).take (bI linked (x::l)).1) 0 with
   |mk o' t'=>
    rw[hf,hg] at e1 e2;dsimp only at e1 e2;subst e1;cases o with
    |none=>
     obtain⟨i1,i2⟩:=Bi linked h n ((x::l).drop (bI linked (x::l)).1) s' t' (e2 rfl);dsimp only;rw[i1];exact⟨rfl,i2⟩
    |some e=>
     obtain⟨i1,i2⟩:=Bi linked h n ((x::l).drop (bI linked (x::l)).1) s t hr;dsimp only;rw[i1];exact⟨rfl,i2⟩
end
end Go.Md
namespace Go.Up
open Go.Sep Go.Den Go.RowKit Go.Prog Go.Md Go.cH
abbrev bh:=Go.Md.bh
structure AG(a:bN):Prop where
 ok:yi a
 yV:m8 a
 ao:0<=a.ao/\a.ao<16
 ay:0<=a.ay/\a.ay<1000
structure KG(k:cr):Prop where
 asked:yf k.asked
 move:yf k.move
 OC:kB k.asked
 PC:kB k.move
 uZ:0<=k.asked.ao/\k.asked.ao<256
 wq:0<=k.move.ao/\k.move.ao<256
 fate:0<=k.fate/\k.fate<=4
 cA:0<=k.move.cA/\k.move.cA<=1073741824
 jO:0<=k.move.jO/\k.move.jO<=1099511627776
structure fk(b:bh):Prop where
 ids:(b.aB.map (·.id)).Nodup
 names:(b.ax.map (·.move.id)).Nodup
 oS:b.aB.length<=32
 many:b.ax.length<=96
 Su:∀a∈b.aB,AG a
 Sh:∀k∈b.ax,KG k
 rising:b.ax.Pairwise λx y=>x.move.ay<y.move.ay
 dK:∀k∈b.ax,1<=k.move.ay/\k.move.ay<=b.ay
 clock:0<=b.clock/\b.clock<=1099511627776
 ay:b.ay=b.aB.length+b.ax.length
def idxOf{α:Type}(key:α->Nat)(l:List α):(Nat->Option Int)×Nat:=(λid=>(l.findIdx? λx=>key x=id).map Int.ofNat,l.length)
section
variable {α:Type} {key:α->Nat} {l:List α} {x y:α} {i id:Nat}
def wz(h:l.findIdx? (λx=>key x=id)=some i):∃hi:i<l.length,key l[i]=id/\l.find? (λx=>key x=id)=some l[i]:=by
 obtain⟨hi,h1,h2⟩:=List.findIdx?_eq_some_iff_getElem.1 h;refine⟨hi,by simpa using h1,?_⟩;rw[List.find?_eq_some_iff_getElem];exact⟨h1,i,hi,rfl,λj hj=>by simpa using h2 j hj⟩
def BE(h:l.findIdx? (λx=>key x=id)=none):l.find? (λx=>key x=id)=none:=by
 rw[List.findIdx?_eq_none_iff] at h;rw[pM];intro a ha;have:=h a ha;simpa using this
def qQ(h:l.find? (λx=>key x=id)=none):l.findIdx? (λx=>key x=id)=none:=by
 rw[pM] at h;rw[List.findIdx?_eq_none_iff];intro a ha;have:=h a ha;simpa using this
def BD(h:l.find? (λa=>key a=key x)=none):idxOf key (l++[x])=(wR (idxOf key l).1 (key x) (some (l.length:Int)),(idxOf key l).2+1):=by
 unfold idxOf;refine Prod.ext ?_ (by simp)
 funext id
 dsimp only[wR];rw[List.findIdx?_append];by_cases e:id=key x
 ·subst e;rw[ai rfl,qQ h];simp
 ·rw[af e];have:List.findIdx? (λa=>decide (key a=id)) [x]=none:=by simp;exact λh=>e h.symm
  rw[this];cases l.findIdx? λx=>decide (key x=id)<;>simp
def PW(hi:i<l.length)(hk:key x=key l[i]):idxOf key (l.set i x)=idxOf key l:=by
 unfold idxOf;refine Prod.ext ?_ (by simp)
 funext id
 dsimp only
 congr 1
 have ae7:∀(l:List α)(i:Nat)(hi:i<l.length),key x=key l[i]->(l.set i x).findIdx? (λx=>key x=id)=l.findIdx? λx=>key x=id:=by
  intro l
  induction l with
  |nil=>intro i hi;simp at hi
  |cons a l ih=>
   intro i hi hk;cases i with
   |zero=>simp only[List.set_cons_zero,List.findIdx?_cons];simp at hk;rw[hk]
   |succ i=>simp only[lA,List.findIdx?_cons];rw[ih i (by simpa using hi) (by simpa using hk)]
 exact ae7 l i hi hk
def zh(hn:(l.map key).Nodup)(hi:i<l.length):l.findIdx? (λx=>key x=key l[i])=some i:=by
 rw[List.findIdx?_eq_some_iff_getElem];refine⟨hi,by simp,λj hj=>?_⟩;have cj:j<l.length:=by omega
 have:=qj.1 hn j i (by simpa using cj) (by simpa using hi) hj;simpa using this
def map_set(hn:(l.map key).Nodup)(hi:i<l.length)(g:α->α):(l.map λx=>if key x=key l[i] then g x else x)=l.set i (g l[i]):=by
 apply List.ext_getElem (by simp);intro j h1 h2;simp only[bY] at h1;rw[List.getElem_map,List.getElem_set];by_cases e:i=j
 ·subst e;simp
 ·rw[af e,af];intro hk;have a:=zh hn h1;rw[hk,zh hn hi] at a;exact e (bE.inj a)
end
def ft:Nat->List cr->List ou
 |_,[]=>[]
 |i,k::l=>(k.move.ay,(i:Int))::ft (i+1) l
def my:∀(i:Nat)(l:List cr),(ft i l).length=l.length
 |_,[]=>rfl
 |i,k::l=>by simp[ft,my (i+1) l]
def mz:∀(i:Nat)(l:List cr)(j:Nat),(ft i l)[j]?=(l[j]?).map λk=>(k.move.ay,((i+j:Nat):Int))
 |_,[],j=>by simp[ft]
 |i,k::l,0=>by simp[ft]
 |i,k::l,j+1=>by simp only[ft,bT,mz (i+1) l j];rw[show i+1+j=i+(j+1) by omega]
def vO:∀(i:Nat)(l:List cr)(k:cr),ft i (l++[k])=ft i l++[(k.move.ay,((i+l.length:Nat):Int))]
 |i,[],k=>by simp[ft]
 |i,x::l,k=>by simp only[lH,ft,vO (i+1) l k];simp;omega
def Bb{i:Nat}{l:List cr}{x:ou}(h:x∈ft i l):∃k∈l,x.1=k.move.ay:=by
 obtain⟨j,hj⟩:=qB h;rw[mz] at hj;cases hk:l[j]? with
 |none=>rw[hk] at hj;cases hj
 |some k=>rw[hk] at hj;cases hj;exact⟨k,cn hk,rfl⟩
def IS{l:List cr}{j:Nat}{k:cr}(i:Nat)(hj:j<l.length)(hk:k.move.ay=l[j].move.ay):ft i (l.set j k)=ft i l:=by
 apply oz;intro n;rw[mz,mz,cW];by_cases e:j=n
 ·subst e;rw[ai rfl,ai hj,aj hj];simp[hk]
 ·rw[af e]
def gj(k:cr):Option Item:=if k.fate=1/\0<k.move.cA then some ⟨k.move.jO+k.move.cA,k.move.ay,k.move.id⟩ else none
abbrev Ji(l:List bN):=idxOf (λx:bN=>x.id) l
abbrev GF(l:List cr):=idxOf (λx:cr=>x.move.id) l
def fN(b:bh):C:=⟨b.aB,b.ax,Ji b.aB,GF b.ax,ft 0 b.ax,b.ax.filterMap gj,b.clock,b.ay⟩
def rz{k:cr}{x:Item}(h:gj k=some x):x.ay=k.move.ay/\x.id=k.move.id/\x.due=k.move.jO+k.move.cA/\k.fate=1/\0<k.move.cA:=by
 unfold gj at h;split at h
 ·rename_i hc;cases h;exact⟨rfl,rfl,rfl,hc⟩
 ·cases h
section
variable {b:bh}
def fk.yH(h:fk b):sR (ft 0 b.ax):=by
 unfold sR;rw[qj];intro i j hi hj MS;have u9:i<b.ax.length:=by simpa [my] using hi
 have MR:j<b.ax.length:=by simpa [my] using hj
 have e1:=mz 0 b.ax i;have e2:=mz 0 b.ax j;rw[aj hi,aj u9] at e1;rw[aj hj,aj MR] at e2;have e1:=bE.inj e1;have e2:=bE.inj e2;rw[e1,e2];exact qj.1 h.rising i j u9 MR MS
def BP(b:bh):(b.ax.filterMap gj).length<=b.ax.length:=List.length_filterMap_le _ _
def fk.QG(h:fk b){i j:Nat}(hi:i<b.ax.length)(hj:j<b.ax.length)(he:b.ax[i].move.ay=b.ax[j].move.ay):i=j:=by
 rcases Nat.lt_trichotomy i j with h1|h1|h1
 ·have:=qj.1 h.rising i j hi hj h1;omega
 ·exact h1
 ·have:=qj.1 h.rising j i hj hi h1;omega
def fk.Uu(h:fk b){i:Nat}(hi:i<b.ax.length){k:cr}(hk:gj k=none){x:Item}(hx:gj b.ax[i]=some x):
 (x::(b.ax.set i k).filterMap gj).Perm (b.ax.filterMap gj)/\∀y∈(b.ax.set i k).filterMap gj,y.ay≠x.ay:=by
 constructor
 ·have key:∀(l:List cr)(i:Nat)(hi:i<l.length),gj l[i]=some x->(x::(l.set i k).filterMap gj).Perm (l.filterMap gj):=by
   intro l
   induction l with
   |nil=>intro i hi;simp at hi
   |cons a l ih=>
    intro i hi hx;cases i with
    |zero=>
     simp only[List.set_cons_zero,List.getElem_cons_zero] at hx⊢;rw[List.filterMap_cons_none hk,List.filterMap_cons_some hx]
    |succ i=>
     simp only[lA,List.getElem_cons_succ] at hx⊢;have:=ih i (by simpa using hi) hx;cases ha:gj a with
     |none=>rw[List.filterMap_cons_none ha,List.filterMap_cons_none ha];exact this
     |some y=>rw[List.filterMap_cons_some ha,List.filterMap_cons_some ha];exact(bX.swap _ _ _).trans (this.cons y)
  exact key _ i hi hx
 ·intro y hy he;obtain⟨a,ha,hay⟩:=List.mem_filterMap.1 hy;obtain⟨j,hj⟩:=qB ha;rw[cW] at hj;by_cases e:i=j
  ·subst e;rw[ai rfl,ai hi] at hj;cases hj;rw[hk] at hay;cases hay
  ·rw[af e] at hj;have T9:=(av.1 hj).1;have s1:=(rz hay).1;have s2:=(rz hx).1;have hja:b.ax[j]=a:=by rw[aj T9] at hj;exact bE.inj hj
   exact e (h.QG hi T9 (by rw[hja];omega))
def G6{l:List cr}{i:Nat}(hi:i<l.length){k:cr}(hk:gj k=none)(hx:gj l[i]=none):(l.set i k).filterMap gj=l.filterMap gj:=by
 induction l generalizing i with
 |nil=>simp at hi
 |cons a l ih=>
  cases i with
  |zero=>simp only[List.set_cons_zero,List.getElem_cons_zero] at hx⊢;rw[List.filterMap_cons_none hk,List.filterMap_cons_none hx]
  |succ i=>
   simp only[lA,List.getElem_cons_succ] at hx⊢;rw[List.filterMap_cons,List.filterMap_cons,ih (by simpa using hi) hx]
end
def Ext(c:C)(hs:List C)(c':C)(fC:List C)(n:Nat):Prop:=∃aaU,fC=aaU++hs/\(c'::aaU).getLast?=some c/\aaU.length<=n
def Ext.refl(c:C)(hs:List C)(n:Nat):Ext c hs c hs n:=⟨[],rfl,rfl,aE _⟩
def Ext.trans{c c' c'':C}{hs fC yo:List C}{n m:Nat}(h1:Ext c hs c' fC n)(h2:Ext c' fC c'' yo m):Ext c hs c'' yo (n+m):=by
 obtain⟨m1,rfl,h3,h4⟩:=h1;obtain⟨m2,rfl,h5,h6⟩:=h2;refine⟨m2++m1,by simp,?_,by simp;omega⟩;cases m1 with
 |nil=>simp at h3;subst h3;simpa using h5
 |cons a m1=>
  rw[List.getLast?_cons_cons] at h3;rw[<-lH,List.getLast?_append,h3];rfl
def Ext.mono{c c':C}{hs fC:List C}{n m:Nat}(h:Ext c hs c' fC n)(hm:n<=m):Ext c hs c' fC m:=by
 obtain⟨m1,h1,h3,h4⟩:=h;exact⟨m1,h1,h3,by omega⟩
def Ext.len{c c':C}{hs fC:List C}{n:Nat}(h:Ext c hs c' fC n):fC.length<=hs.length+n:=by
 obtain⟨m1,rfl,h3,h4⟩:=h;simp;omega
def Ext.back{c c':C}{hs fC:List C}{n:Nat}(h:Ext c hs c' fC n):uY hs.length c' fC=(c,hs):=by
 obtain⟨m1,rfl,h3,-⟩:=h
 induction m1 generalizing c' with
 |nil=>simp at h3;subst h3;exact Dx (aF _)
 |cons a m1 ih=>
  rw[List.getLast?_cons_cons] at h3;rw[lH];unfold uY;rw[ai (by simp)];exact ih h3
def cR(p:Nat)(x:bh×List C):HP:=DQ (fk x.1) (cP p (fN x.1,x.2))
section
variable {W:World} {L R:LH} {K:VK} {X:WK} {p:Nat} {b:bh} {hs:List C} {f:bh×List C->LH} {id:Nat} {a old:bN}
def MI[i:Lc (cR p) L (b,hs) f](h:∀la lk ti tn vs bx R,fk b->ku p la lk bx vs hs (fN b)->
 (∀M b' fC GA oO Y,fk b'->ku p la lk oO GA fC (fN b')->T W (M++f (b',fC)) Y->T W (M++gW p (gG la lk ti tn GA (fN b'))::sw aO 14 la (p,(fN b').aB)::sw bM 33 lk (p,(fN b').ax)::pr ti (fN b').pI::pr tn (fN b').iu::vV oO::R) Y)->
 T W (gW p (gG la lk ti tn vs (fN b))::sw aO 14 la (p,(fN b).aB)::sw bM 33 lk (p,(fN b).ax)::pr ti (fN b).pI::pr tn (fN b).iu::vV bx::R) X):T W L X:=
 DU (P:=cR p) λR pV w hw=>by
  obtain⟨hg,hw⟩:=hw.and;refine UT (λla lk ti tn vs bx hc=>h la lk ti tn vs bx R hg hc λM b' fC GA oO Y XF LO hy=>?_) w hw;refine T.perm (Em (R:=M++R) LO (T.perm ?_ iI.symm)) (by
   have:=bt (l₁:=M) (l₂:=[gW p (gG la lk ti tn GA (fN b')),sw aO 14 la (p,(fN b').aB),sw bM 33 lk (p,(fN b').ax),pr ti (fN b').pI,pr tn (fN b').iu,vV oO])|>.append_right R
   simpa using this)
  refine λw' Si=>pV M (b',fC) Y hy w' ?_;have:=(Si.perm iI);exact(St.and_intro XF this).perm iI.symm
def qD[i:Lc (cR p) L (b,hs) f](h:fk b->T W L X):T W L X:=λw hw=>by
 obtain⟨k,hk,_⟩:=i.at_;exact h ((hw.focus hk).and).1 w hw
def Gz{f1:Core->LH}{f2:Nat×List bN->LH}{f3:(Nat->Option Int)×Nat->LH}{q:Core}[i1:Lc (gW p) L q f1][i2:Lc (sw aO 14 q.la) L (p,b.aB) f2][i3:Lc (pr q.ti) L (Ji b.aB) f3](oS:b.aB.length<=32)
 (h:T W L (K (.tuple ⟨[.agg ⟨aO ((b.find id).getD zA)⟩,.b (b.find id).isSome]⟩))):T W L (dR (ah p) (nm id) K):=by
 unfold dR;apply ws;intros;apply DB (t:=q.ti) (x:=Ji b.aB);cases hi:(b.aB.findIdx? λx=>x.id=id) with
 |none=>
  have e1:(Ji b.aB).1 id=none:=by show yr _ _=_;rw[hi];rfl
  have e2:b.find id=none:=BE (key:=λx:bN=>x.id) hi;rw[e1];rw[e2] at h;simp only[eX,dD,gN,dz] at h⊢;apply ws;exact T.dp h
 |some n=>
  have e1:(Ji b.aB).1 id=some (n:Int):=by show yr _ _=_;rw[hi];rfl
  obtain⟨hn,hk,hf⟩:=wz (key:=λx:bN=>x.id) hi;have e2:b.find id=some b.aB[n]:=hf;rw[e1];rw[e2] at h;simp only[eX,dD,gN,dz] at h⊢;apply ws;refine aeQ (l:=q.la) (x:=b.aB[n]) (aj hn) (by omega) ?_;apply ws;exact T.dp h
def wQ[i:Lc (cR p) L (b,hs) f](h:T W L (K (.tuple ⟨[.agg ⟨aO ((b.find id).getD zA)⟩,.b (b.find id).isSome]⟩))):T W L (dR (ah p) (nm id) K):=by
 have hL:f (b,hs)=L:=i.same;refine MI (p:=p) λla lk ti tn vs bx R hg hc pV=>?_;exact Gz (b:=b) hg.oS (pV [] b hs vs bx _ hg hc (by rw[hL];exact h))
def J4{f1:Core->LH}{f2:Nat×List cr->LH}{f3:(Nat->Option Int)×Nat->LH}{q:Core}[i1:Lc (gW p) L q f1][i2:Lc (sw bM 33 q.lk) L (p,b.ax) f2][i3:Lc (pr q.tn) L (GF b.ax) f3](oS:b.ax.length<=96)
 (h:T W L (K (.tuple ⟨[.agg ⟨bM ((b.named id).getD zK)⟩,.b (b.named id).isSome]⟩))):T W L (iB (ah p) (nm id) K):=by
 unfold iB;apply ws;intros;apply DB (t:=q.tn) (x:=GF b.ax);cases hi:(b.ax.findIdx? λx=>x.move.id=id) with
 |none=>
  have e1:(GF b.ax).1 id=none:=by show yr _ _=_;rw[hi];rfl
  have e2:b.named id=none:=BE (key:=λx:cr=>x.move.id) hi;rw[e1];rw[e2] at h;simp only[eX,dD,gN,dz] at h⊢;apply ws;exact T.dp h
 |some n=>
  have e1:(GF b.ax).1 id=some (n:Int):=by show yr _ _=_;rw[hi];rfl
  obtain⟨hn,hk,hf⟩:=wz (key:=λx:cr=>x.move.id) hi;have e2:b.named id=some b.ax[n]:=hf;rw[e1];rw[e2] at h;simp only[eX,dD,gN,dz] at h⊢;apply ws;refine Vs (l:=q.lk) (x:=b.ax[n]) (aj hn) (by omega) ?_;apply ws;exact T.dp h
def J3[i:Lc (cR p) L (b,hs) f](h:T W L (K (.tuple ⟨[.agg ⟨bM ((b.named id).getD zK)⟩,.b (b.named id).isSome]⟩))):T W L (iB (ah p) (nm id) K):=by
 have hL:f (b,hs)=L:=i.same;refine MI (p:=p) λla lk ti tn vs bx R hg hc pV=>?_;exact J4 (b:=b) hg.many (pV [] b hs vs bx _ hg hc (by rw[hL];exact h))
def Vl[i:Lc (cR p) L (b,hs) f](h:T W L (K (.b (decide (b.ax.length<96))))):T W L (oQ (some ⟨p,0,none⟩) K):=by
 have hL:f (b,hs)=L:=i.same;refine MI (p:=p) λla lk ti tn vs bx R hg hc pV=>?_;have fin:=pV [] b hs vs bx _ hg hc (by rw[hL];exact h);unfold oQ
 repeat' first|apply ws|apply wb|refine OK ?_
 apply T.fin fin
 congr 1
 rw[decide_eq_decide];show((b.ax.length:Nat):Int)<96↔_;omega
def Ph[i:Lc (cR p) L (b,hs) f](h:T W L (K (.i (hs.length:Int)))):T W L (fH (ah p) K):=by
 have hL:f (b,hs)=L:=i.same;refine MI (p:=p) λla lk ti tn vs bx R hg hc pV=>?_;have fin:=pV [] b hs vs bx _ hg hc (by rw[hL];exact h);unfold fH;apply yD;apply DF;apply ab0 (p:=p);apply ws;have:(gG la lk ti tn vs (fN b)).vs.length=hs.length:=by show vs.reverse.length=_;rw[ju,hc.len]
 rw[this];exact fin
def Ks(hg:fk b){n:Nat}(hn:n<b.aB.length)(hk:b.aB[n].id=a.id):fN (b.bB a)={fN b with aB:=b.aB.set n {a with ay:=b.aB[n].ay}}:=by
 have e:(b.bB a).aB=b.aB.set n {a with ay:=b.aB[n].ay}:=by
  show(b.aB.map λx=>if x.id=a.id then{a with ay:=x.ay} else x)=_;have:=map_set (key:=λx:bN=>x.id) hg.ids hn λx=>{a with ay:=x.ay};simp only[hk] at this;exact this
 unfold fN;have e9:Ji (b.aB.set n {a with ay:=b.aB[n].ay})=Ji b.aB:=PW hn hk.symm;rw[e,e9]
 rfl
def fk.bB(hg:fk b){n:Nat}(hn:n<b.aB.length)(hk:b.aB[n].id=a.id)(ha:AG {a with ay:=b.aB[n].ay}):fk (b.bB a):=by
 have e:(b.bB a).aB=b.aB.set n {a with ay:=b.aB[n].ay}:=congrArg C.aB (Ks hg hn hk);have afO:(b.bB a).aB.map (·.id)=b.aB.map (·.id):=by
  rw[e,List.map_set];refine List.ext_getElem (by simp) λi h1 h2=>?_;rw[List.getElem_set];split
  ·rename_i he;subst he;simp[hk]
  ·rfl
 refine⟨by rw[afO];exact hg.ids,hg.names,by rw[e,iH];exact hg.oS,hg.many,?_,hg.Sh,hg.rising,hg.dK,hg.clock,?_⟩
 ·rw[e];intro x hx;rcases fm hx with hx|hx
  ·exact hg.Su x hx
  ·subst hx;exact ha
 ·rw[e,iH];exact hg.ay
def JW[i:Lc (cR p) L (b,hs) f](hf:b.find a.id=some old)(ha:AG {a with ay:=old.ay})(hl:hs.length<900000)
 (h:∀fC,Ext (fN b) hs (fN (b.bB a)) fC 1->T W (f (b.bB a,fC)) (K (.i 0))):T W L (kR (ah p) (aO a) K):=by
 refine MI (p:=p) λla lk ti tn vs bx R hg hc pV=>?_;have oS:=hg.oS;obtain⟨n,hi⟩:∃n,(b.aB.findIdx? λx=>x.id=a.id)=some n:=by
  cases hi:(b.aB.findIdx? λx=>x.id=a.id) with
  |none=>rw[show b.find a.id=none from BE (key:=λx:bN=>x.id) hi] at hf;cases hf
  |some n=>exact⟨n,rfl⟩
 obtain⟨hn,hk,hff⟩:=wz (key:=λx:bN=>x.id) hi;have e2:b.find a.id=some b.aB[n]:=hff;rw[hf] at e2;have e3:=bE.inj e2;subst e3;have e1:(Ji b.aB).1 a.id=some (n:Int):=by show yr _ _=_;rw[hi];rfl
 have G3:=Ks hg hn hk;have PZ:(gG la lk ti tn vs (fN b)).vs.length<1000000:=by show vs.reverse.length<_;rw[ju,hc.len];omega
 unfold kR;apply ws;intros;apply Gz (b:=b) hg.oS;rw[hf];simp only[dD,dz];apply ws;intros;refine DB (t:=ti) (x:=(fN b).pI) ?_;rw[show(fN b).pI.1 a.id=some (n:Int) from e1];simp only[dD,dz];apply ws;refine ab9 (l:=la) (y:=b.aB[n]) (aj hn) (show b.aB.length<_ by omega) PZ λr4 r1 r2=>?_;apply ws;refine eP (eP (eP (eP (eP ?_))));have Jt:∀oO,(∀x∈bx,x∈oO)->(r4,aO b.aB[n])∈oO->(r1,[.p (some (ad la 0))])∈oO->(r2,[.i (n:Int)])∈oO->ku p la lk oO (Ek r4 r1 r2::vs) (fN b::hs) (fN (b.bB a)):=by
  intro oO AS m1 m2 m3;refine⟨?_,hc.mono AS⟩;have:=DC.Wv (p:=p) (la:=la) (lk:=lk) (c:=fN (b.bB a)) m1 m2 m3 (by rw[G3];simpa using hn);have ee:{fN (b.bB a) with aB:=(fN (b.bB a)).aB.set n b.aB[n]}=fN b:=by
   rw[G3];simp only[jC,List.set_getElem_self]
   rfl
  rw[ee] at this;exact this
 have fin:=λoO c1=>pV [] (b.bB a) (fN b::hs) (Ek r4 r1 r2::vs) oO _ (hg.bB hn hk ha) c1 (h _ ⟨[fN b],rfl,rfl,aF _⟩);rw[G3] at fin;simp only[gG,xW] at fin;exact fin _ (G3▸Jt _ (λx hx=>by simp[hx]) (by simp) (by simp) (by simp))
end
section
variable {W:World} {L R:LH} {K:VK} {X:WK} {p:Nat} {b:bh} {hs:List C} {f:bh×List C->LH} {id:Nat} {a old:bN}
def Qy{q:Core}{f1:Core->LH}[i:Lc (gW p) L q f1](hl:q.vs.length<1000000)(hs:0<=q.ay/\q.ay<1000000)
 (h:∀r,T W (Sep.pt r [.p (some (ad p 0))]::f1 {q with vs:=q.vs++[A7 r],ay:=q.ay+1}) (K (.i (q.ay+1)))):T W L (oP (ah p) K):=by
 unfold oP
 repeat' first|apply ws;intros|apply wb|refine Nb ?_
 rename_i r;rw[aX (by omega)];have i2:=i.next {q with ay:=q.ay+1};apply vX (p:=p) (q:={q with ay:=q.ay+1}) hl rfl rfl;have i3:=i.next {q with vs:=q.vs++[A7 r],ay:=q.ay+1};apply ws;exact h r
def bh.more(b:bh)(a:bN):bh:={b with ay:=b.ay+1,aB:=b.aB++[{a with ay:=b.ay+1}]}
def fk.more(hg:fk b)(hf:b.find a.id=none)(oS:b.aB.length<32)(ha:AG {a with ay:=b.ay+1}):fk (b.more a):=by
 have u7:=hg.ay;have many:=hg.many;refine⟨?_,hg.names,by show(b.aB++[_]).length<=32;simp;omega,hg.many,?_,hg.Sh,hg.rising,λk hk=>⟨(hg.dK k hk).1,by have:=(hg.dK k hk).2;show _<=b.ay+1;omega⟩,hg.clock,by show b.ay+1=(((b.aB++[_]).length:Nat):Int)+(b.ax.length:Int);simp;omega⟩
 ·show((b.aB++[_]).map _).Nodup;rw[cU];rw[List.nodup_append];refine⟨hg.ids,by simp,?_⟩;intro x hx y hy;simp at hy;subst hy;obtain⟨z,hz,rfl⟩:=dF.1 hx;have:=pM.1 hf z hz;simpa using this
 ·intro x hx;rcases dY.1 hx with hx|hx
  ·exact hg.Su x hx
  ·simp at hx;subst hx;exact ha
def aaT(hf:b.find a.id=none):fN (b.more a)={fN b with ay:=b.ay+1,pI:=(wR (fN b).pI.1 a.id (some (b.aB.length:Int)),(fN b).pI.2+1),aB:=b.aB++[{a with ay:=b.ay+1}]}:=by
 have e9:Ji (b.aB++[{a with ay:=b.ay+1}])=(wR (Ji b.aB).1 a.id (some (b.aB.length:Int)),(Ji b.aB).2+1):=BD (key:=λx:bN=>x.id) (x:={a with ay:=b.ay+1}) hf;unfold fN bh.more;dsimp only;rw[e9]
def Ko{m:Nat->Option Int}{k:Nat}{v:Int}{n:Nat}(h:m k=none):(wR (wR m k (some v)) k none,n+1-1)=(m,n):=by
 refine Prod.ext ?_ rfl
 funext j
 dsimp only[wR];by_cases e:j=k
 ·subst e;rw[ai rfl,h]
 ·rw[af e,af e]
def WD[i:Lc (cR p) L (b,hs) f](hf:b.find a.id=none)(oS:b.aB.length<32)(ha:AG {a with ay:=b.ay+1})(hl:hs.length<900000)
 (h:∀fC,Ext (fN b) hs (fN (b.more a)) fC 3->T W (f (b.more a,fC)) (K (.i 0))):T W L (mO (ah p) (aO a) K):=by
 refine MI (p:=p) λla lk ti tn vs bx R hg hc pV=>?_;have u7:=hg.ay;have many:=hg.many;have oZ:(Ji b.aB).1 a.id=none:=by show yr _ _=_;rw[qQ (key:=λx:bN=>x.id) hf];rfl
 have PZ:vs.reverse.length<900000:=by rw[ju,hc.len];omega
 unfold mO;apply ws;intros;apply OO (l:=la);apply ws;refine eO (by show decide (((b.aB.length:Nat):Int)>=32)=false;simp;omega) ?_;apply ws;refine DB (t:=ti) (x:=(fN b).pI) ?_;rw[show(fN b).pI.1 a.id=none from oZ];simp only[eX,gN];apply ws;refine Qy (p:=p) (q:=gG la lk ti tn vs (fN b)) (by show vs.reverse.length<_;omega) (by show 0<=b.ay/\b.ay<_;omega) λr3=>?_;apply ws;apply OO (l:=la);apply ws;refine Qx (t:=ti) (x:=(fN b).pI) (show b.aB.length<=1000 by omega) oZ ?_;apply ws;refine vX (p:=p) (by show(vs.reverse++[_]).length<_;simp at PZ⊢;omega) rfl rfl ?_;apply ws;refine VB (l:=la) (x:={a with ay:=b.ay+1}) (show b.aB.length<_ by omega) (by show((vs.reverse++[_])++[_]).length<_;simp at PZ⊢;omega) λr4 r5=>?_;apply ws;rename_i r1 r2;refine eP (eP (eP (eP (eP ?_))));have G3:=aaT (a:=a) hf;have Jt:∀oO,(∀x∈bx,x∈oO)->(r1,[.p (some (ad p 0))])∈oO->(r2,aO {a with ay:=b.ay+1})∈oO->(r3,[.p (some (ad p 0))])∈oO->(r4,[.p (some (ad la 0))])∈oO->(r5,[.i (b.aB.length:Int)])∈oO->
                                                                                                                                                                                  ku p la lk oO (BV r4 r5::SI r1 r2::A7 r3::vs) ({fN b with ay:=b.ay+1,pI:=(wR (fN b).pI.1 a.id (some (b.aB.length:Int)),(fN b).pI.2+1)}::{fN b with ay:=b.ay+1}::fN b::hs) (fN (b.more a)):=by
  intro oO AS m1 m2 m3 m4 m5;refine⟨?_,?_,?_,hc.mono AS⟩
  ·have:=DC.Yw (p:=p) (la:=la) (lk:=lk) (c:=fN (b.more a)) m4 m5 (by show b.aB.length<=(b.aB++[_]).length;simp);have ee:{fN (b.more a) with aB:=(fN (b.more a)).aB.take b.aB.length}={fN b with ay:=b.ay+1,pI:=(wR (fN b).pI.1 a.id (some (b.aB.length:Int)),(fN b).pI.2+1)}:=by
    rw[G3];dsimp only;rw[CW];rfl
   rw[ee] at this;exact this
  ·have:=DC.open_ (p:=p) (la:=la) (lk:=lk) (c:={fN b with ay:=b.ay+1,pI:=(wR (fN b).pI.1 a.id (some (b.aB.length:Int)),(fN b).pI.2+1)}) (x:={a with ay:=b.ay+1}) m1 m2 (show b.aB.length+1<=1000 by omega) (by show(wR _ _ _ _).isSome=true;unfold wR;rw[ai rfl];rfl) (Ko (show(fN b).pI.1 a.id=none from oZ));exact this
  ·exact DC.next (c:={fN b with ay:=b.ay+1}) m3 (by show aa.wrap (b.ay+1-1)=b.ay;rw[aX (by omega)];omega)
 have fin:=λoO c1=>pV [] (b.more a) _ (BV r4 r5::SI r1 r2::A7 r3::vs) oO _ (hg.more hf oS ha) c1 (h _ ⟨[{fN b with ay:=b.ay+1,pI:=(wR (fN b).pI.1 a.id (some (b.aB.length:Int)),(fN b).pI.2+1)},{fN b with ay:=b.ay+1},fN b],rfl,rfl,aF _⟩);rw[G3] at fin;simp only[gG,xW] at fin;exact fin _ (G3▸Jt _ (λx hx=>by simp[hx]) (by repeat (first|exact dM.head _|apply dM.tail)) (by repeat (first|exact dM.head _|apply dM.tail)) (by repeat (first|exact dM.head _|apply dM.tail)) (by repeat (first|exact dM.head _|apply dM.tail)) (by repeat (first|exact dM.head _|apply dM.tail)))
end
section
variable {W:World} {L R:LH} {K:VK} {X:WK} {p:Nat} {b:bh} {hs:List C} {f:bh×List C->LH} {id:Nat} {k:cr} {asked t:cx} {fate:Int}
instance{x1 x2 x3 x4:Value}{x y:Int}{n:Nat}:Wr [x1,x2,x3,x4] 0 ([.i x,.i y]++(nm n++[])) (gO ⟨x,y,n⟩):=⟨by simp[over,gO,nm],by simp[nm],λv h=>qw ⟨x,y,n⟩ v (by simpa [gO] using h)⟩
def T.Oj{la lk ti tn:Nat}{vs:LV}{st:List ou}{e e':List Item}{x y:Int}(he:e.Perm e')(h:T W (gW p ⟨la,lk,ti,tn,vs,st,e',x,y⟩::R) X):T W (gW p ⟨la,lk,ti,tn,vs,st,e,x,y⟩::R) X:=T.Iq (q:=⟨la,lk,ti,tn,vs,st,e,x,y⟩) he h
def Oh(k:cr):Item:=⟨k.move.jO+k.move.cA,k.move.ay,k.move.id⟩
def UB(hk:KG k)(h:T W L (K (.tuple ⟨[.agg ⟨gO (Oh k)⟩,.b (gj k).isSome]⟩))):T W L (uB (bM k) K):=by
 have h1:=hk.cA;have h2:=hk.jO;unfold uB;apply ws;intros;rw[aX (by omega)];have hd:(gj k).isSome=decide (k.fate=1/\0<k.move.cA):=by
  unfold gj;split
  ·rename_i hc;simp[hc]
  ·rename_i hc;simp[hc]
 rw[hd] at h;apply db<;>intro g
 ·have g:k.fate=1:=by simpa using g
  apply ws;refine T.fin (by exact T.dp h) ?_;simp[g];rfl
 ·have g: ¬k.fate=1:=by simpa using g
  apply ws;refine T.fin (by exact T.dp h) ?_;simp[g];rfl
def fk.nj(hg:fk b)(hf:b.named t.id=none)(many:b.ax.length<96)(hk:KG ⟨asked,{t with ay:=b.ay+1,jO:=b.clock},fate⟩):fk (b.nj asked t fate):=by
 have u7:=hg.ay;refine⟨hg.ids,?_,hg.oS,by show(b.ax++[_]).length<=96;simp;omega,hg.Su,?_,?_,?_,hg.clock,by show b.ay+1=_+(((b.ax++[_]).length:Nat):Int);simp;show _=(b.aB.length:Int)+_;omega⟩
 ·show((b.ax++[_]).map _).Nodup;rw[cU,List.nodup_append];refine⟨hg.names,by simp,?_⟩;intro x hx y hy;simp at hy;subst hy;obtain⟨z,hz,rfl⟩:=dF.1 hx;have:=pM.1 hf z hz;simpa using this
 ·intro x hx;rcases dY.1 hx with hx|hx
  ·exact hg.Sh x hx
  ·simp at hx;subst hx;exact hk
 ·show(b.ax++[_]).Pairwise _;rw[List.pairwise_append];refine⟨hg.rising,by simp,λx hx y hy=>?_⟩;simp at hy;subst hy;have:=(hg.dK x hx).2;show _<b.ay+1;omega
 ·intro x hx;rcases dY.1 hx with hx|hx
  ·have:=hg.dK x hx;show _/\_<=b.ay+1;omega
  ·simp at hx;subst hx;show 1<=b.ay+1/\b.ay+1<=b.ay+1;omega
abbrev tz(b:bh)(asked t:cx)(fate:Int):cr:=⟨asked,{t with ay:=b.ay+1,jO:=b.clock},fate⟩
def aaX(hf:b.named t.id=none):fN (b.nj asked t fate)={fN b with ay:=b.ay+1,ax:=b.ax++[tz b asked t fate],iu:=(wR (fN b).iu.1 t.id (some (b.ax.length:Int)),(fN b).iu.2+1),dK:=(fN b).dK++[(b.ay+1,(b.ax.length:Int))],ends:=(fN b).ends++(gj (tz b asked t fate)).toList}:=by
 have e9:GF (b.ax++[tz b asked t fate])=(wR (GF b.ax).1 t.id (some (b.ax.length:Int)),(GF b.ax).2+1):=BD (key:=λx:cr=>x.move.id) (x:=tz b asked t fate) hf;unfold fN bh.nj;dsimp only;rw[e9,vO,List.filterMap_append,aD]
 congr 1
def Pj{waits:Bool}[i:Lc (cR p) L (b,hs) f](hf:b.named t.id=none)(many:b.ax.length<96)(hk:KG (tz b asked t fate))(hw:fate=if waits then 1 else 0)(hl:hs.length<900000)
 (h:∀fC,Ext (fN b) hs (fN (b.nj asked t fate)) fC 4->T W (f (b.nj asked t fate,fC)) (K (.i 0))):T W L (iC (ah p) (aM asked) (aM t) waits K):=by
 refine MI (p:=p) λla lk ti tn vs bx R hg hc pV=>?_;have u7:=hg.ay;have oS:=hg.oS;have oZ:(GF b.ax).1 t.id=none:=by show yr _ _=_;rw[qQ (key:=λx:cr=>x.move.id) hf];rfl
 have PZ:vs.reverse.length<900000:=by rw[ju,hc.len];omega
 unfold iC;apply ws;intros;apply OK (l:=lk);apply ws;refine eO (by show decide (((b.ax.length:Nat):Int)>=96)=false;simp;omega) ?_;apply ws;refine DB (t:=tn) (x:=(fN b).iu) ?_;rw[show(fN b).iu.1 t.id=none from oZ];simp only[eX,gN];apply ws;intros;rename_i r1 r2 r3 r4;have main:T W (Sep.pt r4 (bM ⟨asked,t,fate⟩)::Sep.pt r3 (aM t)::Sep.pt r2 (aM asked)::Sep.pt r1 [.p (some (ad p 0))]::gW p (gG la lk ti tn vs (fN b))::sw aO 14 la (p,(fN b).aB)::sw bM 33 lk (p,(fN b).ax)::pr ti (fN b).pI::pr tn (fN b).iu::vV bx::R) (iC.j1 K r1 r4 r3):=by
  unfold iC.j1;apply ws;refine Qy (p:=p) (q:=gG la lk ti tn vs (fN b)) (by show vs.reverse.length<_;omega) (by show 0<=b.ay/\b.ay<_;omega) λr5=>?_;apply ws;refine Vu (l:=lk) (x:=tz b asked t fate) (show b.ax.length<_ by omega) (by show(vs.reverse++[_]).length<_;simp at PZ⊢;omega) λr6 r7=>?_;apply ws;refine Qx (t:=tn) (x:=(fN b).iu) (show b.ax.length<=1000 by omega) oZ ?_;apply ws;refine Qi (p:=p) hg.yH (by show(ft 0 b.ax).length<_;rw[my];omega) (λx hx=>by
   obtain⟨k,hk,e⟩:=Bb hx
   have:=(hg.dK k hk).2
   show x.1<b.ay+1
   omega) ?_
  apply ws;refine vX (p:=p) (by show((vs.reverse++[_])++[_]).length<_;simp at PZ⊢;omega) rfl rfl ?_;apply ws;apply UB (k:=tz b asked t fate) hk;apply ws;intros;rename_i r8;have G3:=aaX (asked:=asked) (fate:=fate) hf;have Jt:∀oO,(∀x∈bx,x∈oO)->(r1,[.p (some (ad p 0))])∈oO->(r3,aM t)∈oO->(r4,bM (tz b asked t fate))∈oO->(r5,[.p (some (ad p 0))])∈oO->(r6,[.p (some (ad lk 0))])∈oO->(r7,[.i (b.ax.length:Int)])∈oO->
   ku p la lk oO (EJ r1 r3 r4::vD r6 r7::A7 r5::vs) ({fN b with ay:=b.ay+1,ax:=b.ax++[tz b asked t fate]}::{fN b with ay:=b.ay+1}::fN b::hs)
    {fN b with ay:=b.ay+1,ax:=b.ax++[tz b asked t fate],iu:=(wR (fN b).iu.1 t.id (some (b.ax.length:Int)),(fN b).iu.2+1),dK:=(fN b).dK++[(b.ay+1,(b.ax.length:Int))]}:=by
   intro oO AS m1 m2 m3 m4 m5 m6;refine⟨?_,?_,?_,hc.mono AS⟩
   ·exact DC.PS (p:=p) (la:=la) (lk:=lk) (c:={fN b with ay:=b.ay+1,ax:=b.ax++[tz b asked t fate],iu:=(wR (fN b).iu.1 t.id (some (b.ax.length:Int)),(fN b).iu.2+1),dK:=(fN b).dK++[(b.ay+1,(b.ax.length:Int))]}) (t:=t) (k:=tz b asked t fate) (l0:=(fN b).dK) m1 m2 m3 (show b.ax.length+1<=1000 by omega) (by show(wR _ _ _ _).isSome=true;unfold wR;rw[ai rfl];rfl)
     (by have:=(hg.nj hf many hk).yH
         have e:ft 0 (b.nj asked t fate).ax=(fN b).dK++[(b.ay+1,(b.ax.length:Int))]:=congrArg C.dK G3
         rw[e] at this;exact this)
     (by show(ft 0 b.ax++[_]).length<_;rw[au,my];simp;omega) rfl (Ko (show(fN b).iu.1 t.id=none from oZ))
   ·have:=DC.Yv (p:=p) (la:=la) (lk:=lk) (c:={fN b with ay:=b.ay+1,ax:=b.ax++[tz b asked t fate]}) m5 m6 (by show b.ax.length<=(b.ax++[_]).length;simp);have ee:({({fN b with ay:=b.ay+1,ax:=b.ax++[tz b asked t fate]}:C) with ax:=(b.ax++[tz b asked t fate]).take b.ax.length}:C)={fN b with ay:=b.ay+1}:=by rw[CW];rfl
    rw[ee] at this;exact this
   ·exact DC.next (c:={fN b with ay:=b.ay+1}) m4 (by show aa.wrap (b.ay+1-1)=b.ay;rw[aX (by omega)];omega)
  cases hd:gj (tz b asked t fate) with
  |none=>
   simp only[eX];apply ws;refine eP (eP (eP (eP (eP (eP (eP (eP ?_)))))));rw[hd] at G3;simp only[Option.toList_none,bO] at G3;have fin:=λoO c1=>pV [] (b.nj asked t fate) _ (EJ r1 r3 r4::vD r6 r7::A7 r5::vs) oO _ (hg.nj hf many hk) c1 (h _ ⟨[{fN b with ay:=b.ay+1,ax:=b.ax++[tz b asked t fate]},{fN b with ay:=b.ay+1},fN b],rfl,rfl,by simp⟩);rw[G3] at fin;simp only[gG,xW] at fin;exact fin _ (Jt _ (λx hx=>by simp[hx]) (by repeat (first|exact dM.head _|apply dM.tail)) (by repeat (first|exact dM.head _|apply dM.tail)) (by repeat (first|exact dM.head _|apply dM.tail)) (by repeat (first|exact dM.head _|apply dM.tail)) (by repeat (first|exact dM.head _|apply dM.tail)) (by repeat (first|exact dM.head _|apply dM.tail)))
  |some x=>
   have ex:Oh (tz b asked t fate)=x:=by
    unfold gj at hd;split at hd
    ·cases hd;rfl
    ·cases hd
   simp only[dD];apply ws;simp only[gY,aD];rw[ex];refine JN (p:=p) (e':=(fN b).ends++[x]) (by have:=BP b;show(b.ax.filterMap gj).length<_;omega) (bX.refl _) ?_;apply ws;refine vX (p:=p) (by show(((vs.reverse++[_])++[_])++[_]).length<_;simp at PZ⊢;omega) rfl rfl ?_;apply ws;refine eP (eP (eP (eP (eP (eP (eP (eP ?_)))))));rw[hd] at G3;simp only[Option.toList_some] at G3;have hsx:=(rz hd).1;have Ue:∀oO,(∀x∈bx,x∈oO)->(r1,[.p (some (ad p 0))])∈oO->(r3,aM t)∈oO->(r4,bM (tz b asked t fate))∈oO->(r5,[.p (some (ad p 0))])∈oO->(r6,[.p (some (ad lk 0))])∈oO->(r7,[.i (b.ax.length:Int)])∈oO->(r8,gO x)∈oO->
                                              ku p la lk oO (M9 r1 r8::EJ r1 r3 r4::vD r6 r7::A7 r5::vs) ({fN b with ay:=b.ay+1,ax:=b.ax++[tz b asked t fate],iu:=(wR (fN b).iu.1 t.id (some (b.ax.length:Int)),(fN b).iu.2+1),dK:=(fN b).dK++[(b.ay+1,(b.ax.length:Int))]}::{fN b with ay:=b.ay+1,ax:=b.ax++[tz b asked t fate]}::{fN b with ay:=b.ay+1}::fN b::hs)
                                               (fN (b.nj asked t fate)):=by
    intro oO AS m1 m2 m3 m4 m5 m6 m7;refine⟨?_,Jt oO AS m1 m2 m3 m4 m5 m6⟩;rw[G3];exact DC.PR (p:=p) (la:=la) (lk:=lk) (c:={fN b with ay:=b.ay+1,ax:=b.ax++[tz b asked t fate],iu:=(wR (fN b).iu.1 t.id (some (b.ax.length:Int)),(fN b).iu.2+1),dK:=(fN b).dK++[(b.ay+1,(b.ax.length:Int))],ends:=(fN b).ends++[x]}) (e':=(fN b).ends) m1 m7
     (by have:=BP b;show(b.ax.filterMap gj++[x]).length<_;simp;omega) (bt (l₁:=[x])) (λy hy=>by
      obtain⟨k,hk,e⟩:=List.mem_filterMap.1 hy
      have h1:=(rz e).1
      have h2:=(hg.dK k hk).2
      rw[hsx]
      show y.ay≠b.ay+1
      omega)
   have fin:=λoO c1=>pV [] (b.nj asked t fate) _ (M9 r1 r8::EJ r1 r3 r4::vD r6 r7::A7 r5::vs) oO _ (hg.nj hf many hk) c1 (h _ ⟨[{fN b with ay:=b.ay+1,ax:=b.ax++[tz b asked t fate],iu:=(wR (fN b).iu.1 t.id (some (b.ax.length:Int)),(fN b).iu.2+1),dK:=(fN b).dK++[(b.ay+1,(b.ax.length:Int))]},{fN b with ay:=b.ay+1,ax:=b.ax++[tz b asked t fate]},{fN b with ay:=b.ay+1},fN b],rfl,rfl,by simp⟩);rw[G3] at fin Ue;simp only[gG,xW] at fin;exact fin _ (Ue _ (λx hx=>by simp[hx]) (by repeat (first|exact dM.head _|apply dM.tail)) (by repeat (first|exact dM.head _|apply dM.tail)) (by repeat (first|exact dM.head _|apply dM.tail)) (by repeat (first|exact dM.head _|apply dM.tail)) (by repeat (first|exact dM.head _|apply dM.tail)) (by repeat (first|exact dM.head _|apply dM.tail)) (by repeat (first|exact dM.head _|apply dM.tail)))
 apply db<;>intro g
 ·rw[g] at hw;apply ws;rw[ai rfl] at hw;rw[hw] at main;exact main
 ·rw[g,af (by decide)] at hw;rw[hw] at main;exact main
def Ur(hg:fk b){n:Nat}(hn:n<b.ax.length)(h1:b.ax[n].fate=1)(Ef:fate=2\/fate=3\/fate=4):fN (b.fate b.ax[n].move.id fate)={fN b with ax:=b.ax.set n {b.ax[n] with fate:=fate},ends:=(b.ax.set n {b.ax[n] with fate:=fate}).filterMap gj}:=by
 have e:(b.fate b.ax[n].move.id fate).ax=b.ax.set n {b.ax[n] with fate:=fate}:=by
  show(b.ax.map λk=>if k.move.id=b.ax[n].move.id/\k.fate=1 then{k with fate:=fate} else k)=_;have:=map_set (key:=λx:cr=>x.move.id) hg.names hn λk=>if k.fate=1 then{k with fate:=fate} else k
  rw[ai h1] at this;rw[<-this];apply mI;intro k hk;by_cases e1:k.move.id=b.ax[n].move.id<;>by_cases e2:k.fate=1<;>simp[e1,e2]
 have e9:GF (b.ax.set n {b.ax[n] with fate:=fate})=GF b.ax:=PW (key:=λx:cr=>x.move.id) hn rfl;unfold fN;rw[e,e9,IS (k:={b.ax[n] with fate:=fate}) 0 hn rfl]
 rfl
def fk.adN(hg:fk b){n:Nat}(hn:n<b.ax.length)(h1:b.ax[n].fate=1)(Ef:fate=2\/fate=3\/fate=4):fk (b.fate b.ax[n].move.id fate):=by
 have e:(b.fate b.ax[n].move.id fate).ax=b.ax.set n {b.ax[n] with fate:=fate}:=congrArg C.ax (Ur hg hn h1 Ef);have em:∀{β:Type}(g:cr->β),(∀k:cr,g {k with fate:=fate}=g k)->(b.fate b.ax[n].move.id fate).ax.map g=b.ax.map g:=by
  intro β g hgg;rw[e,List.map_set];refine List.ext_getElem (by simp) λi h1 h2=>?_;rw[List.getElem_set];split
  ·rename_i he;subst he;simp[hgg]
  ·rfl
 have hk:=hg.Sh _ (cb hn);refine⟨hg.ids,by rw[em (λx=>x.move.id) λ_=>rfl];exact hg.names,hg.oS,by rw[e,iH];exact hg.many,hg.Su,?_,?_,?_,hg.clock,by rw[e,iH];exact hg.ay⟩
 ·rw[e];intro x hx;rcases fm hx with hx|hx
  ·exact hg.Sh x hx
  ·subst hx;exact⟨hk.asked,hk.move,hk.OC,hk.PC,hk.uZ,hk.wq,by show 0<=fate/\fate<=4;omega,hk.cA,hk.jO⟩
 ·have h2:=hg.rising;have:((b.fate b.ax[n].move.id fate).ax.map λx=>x.move.ay).Pairwise (·<·):=by
   rw[em (λx=>x.move.ay) λ_=>rfl];exact List.pairwise_map.2 h2
  exact List.pairwise_map.1 this
 ·rw[e];intro x hx;rcases fm hx with hx|hx
  ·exact hg.dK x hx
  ·subst hx;exact hg.dK b.ax[n] (cb hn)
def aay[i:Lc (cR p) L (b,hs) f](hn:b.named id=some k)(h1:k.fate=1)(Ef:fate=2\/fate=3\/fate=4)(hl:hs.length<900000)
 (h:∀fC,Ext (fN b) hs (fN (b.fate id fate)) fC 2->T W (f (b.fate id fate,fC)) (K (.i 0))):T W L (dc (ah p) (nm id) fate K):=by
 refine MI (p:=p) λla lk ti tn vs bx R hg hc pV=>?_;have oS:=hg.oS;have many:=hg.many;obtain⟨n,hi⟩:∃n,(b.ax.findIdx? λx=>x.move.id=id)=some n:=by
  cases hi:(b.ax.findIdx? λx=>x.move.id=id) with
  |none=>rw[show b.named id=none from BE (key:=λx:cr=>x.move.id) hi] at hn;cases hn
  |some n=>exact⟨n,rfl⟩
 obtain⟨hnl,hk,hff⟩:=wz (key:=λx:cr=>x.move.id) hi;have e2:b.named id=some b.ax[n]:=hff;rw[hn] at e2;have e3:=bE.inj e2;subst e3;subst hk;have e1:(GF b.ax).1 b.ax[n].move.id=some (n:Int):=by show yr _ _=_;rw[hi];rfl
 have G3:=Ur hg hnl h1 Ef;have hkg:=hg.Sh _ (cb hnl);have PZ:vs.reverse.length<900000:=by rw[ju,hc.len];omega
 have Kb:gj {b.ax[n] with fate:=fate}=none:=by unfold gj;rw[af];show ¬(fate=1/\_);omega
 unfold dc;apply ws;intros;apply J4 (b:=b) hg.many;rw[hn];simp only[dD,dz];apply ws;intros;rename_i r1 r2 r3;unfold dc.j1;apply eO (by simpa using h1);unfold dc.j2;refine eO (by simp;omega) ?_;refine eO (by simp;omega) ?_;apply ws;apply UB (k:=b.ax[n]) hkg;apply ws;intros;rename_i r4;have main:∀(q:Core)(yz:LV)(gI:List C)(c2:C),q=gG la lk ti tn yz c2->c2={fN b with ends:=q.ends}->q.ends.Perm ((b.ax.set n {b.ax[n] with fate:=fate}).filterMap gj)->yz.length<=vs.length+1->
                                                      (∀oO,(∀x∈bx,x∈oO)->(r1,[.p (some (ad p 0))])∈oO->(r4,gO (Oh b.ax[n]))∈oO->ku p la lk oO yz gI {fN b with ends:=(b.ax.set n {b.ax[n] with fate:=fate}).filterMap gj})->
                                                      Ext (fN b) hs (fN (b.fate b.ax[n].move.id fate)) ({fN b with ends:=(b.ax.set n {b.ax[n] with fate:=fate}).filterMap gj}::gI) 2->
                                                      T W (Sep.pt r4 (gO (Oh b.ax[n]))::Sep.pt r3 (bM b.ax[n])::Sep.pt r2 (nm b.ax[n].move.id)::Sep.pt r1 [.p (some (ad p 0))]::gW p q::sw aO 14 la (p,b.aB)::sw bM 33 lk (p,b.ax)::pr ti (Ji b.aB)::pr tn (GF b.ax)::vV bx::R) (dc.j4 K r1 r2 r3 fate):=by
  rintro q yz gI c2 rfl Sn hpm ae9 Jt afr;unfold dc.j4;have Zw:(gG la lk ti tn yz c2).vs.length<1000000:=by show yz.reverse.length<_;rw[ju];rw[ju] at PZ;omega
  apply ws;apply DB (t:=tn) (x:=GF b.ax);rw[e1];simp only[dD,dz];apply ws;refine ab2 (l:=lk) (y:=b.ax[n]) (x:={b.ax[n] with fate:=fate}) (aj hnl) (by omega) Zw λr5 r6 r7=>?_;apply ws;refine eP (eP (eP (eP (eP (eP (eP ?_))))));refine T.Oj (e':=(b.ax.set n {b.ax[n] with fate:=fate}).filterMap gj) hpm ?_;have fin:=λoO(c1:ku p la lk oO (BU r5 r6 r7::yz) ({fN b with ends:=(b.ax.set n {b.ax[n] with fate:=fate}).filterMap gj}::gI) (fN (b.fate b.ax[n].move.id fate)))=>pV [] (b.fate b.ax[n].move.id fate) _ (BU r5 r6 r7::yz) oO _ (hg.adN hnl h1 Ef) c1 (h _ afr);have Ue:∀oO,(∀x∈bx,x∈oO)->(r1,[.p (some (ad p 0))])∈oO->(r4,gO (Oh b.ax[n]))∈oO->(r5,bM b.ax[n])∈oO->(r6,[.p (some (ad lk 0))])∈oO->(r7,[.i (n:Int)])∈oO->
                                            ku p la lk oO (BU r5 r6 r7::yz) ({fN b with ends:=(b.ax.set n {b.ax[n] with fate:=fate}).filterMap gj}::gI) (fN (b.fate b.ax[n].move.id fate)):=by
   intro oO AS m1 m2 m3 m4 m5;refine⟨?_,Jt oO AS m1 m2⟩;have:=DC.Wu (p:=p) (la:=la) (lk:=lk) (c:=fN (b.fate b.ax[n].move.id fate)) m3 m4 m5 (by rw[G3];simpa using hnl);have ee:{fN (b.fate b.ax[n].move.id fate) with ax:=(fN (b.fate b.ax[n].move.id fate)).ax.set n b.ax[n]}={fN b with ends:=(b.ax.set n {b.ax[n] with fate:=fate}).filterMap gj}:=by
    rw[G3];simp only[jC,List.set_getElem_self]
    rfl
   rw[ee] at this;exact this
  rw[G3] at fin Ue;simp only[gG,xW] at fin;rw[Sn];exact fin _ (Ue _ (λx hx=>by simp[hx]) (by repeat (first|exact dM.head _|apply dM.tail)) (by repeat (first|exact dM.head _|apply dM.tail)) (by repeat (first|exact dM.head _|apply dM.tail)) (by repeat (first|exact dM.head _|apply dM.tail)) (by repeat (first|exact dM.head _|apply dM.tail)))
 cases hd:gj b.ax[n] with
 |none=>
  simp only[eX];apply ws;unfold dc.j3;apply sB;have hes:=G6 hnl Kb hd;have Uf:({fN b with ends:=(b.ax.set n {b.ax[n] with fate:=fate}).filterMap gj}:C)=fN b:=by rw[hes];rfl
  refine main (gG la lk ti tn vs (fN b)) vs hs (fN b) rfl rfl (by rw[hes];exact bX.refl _) (by omega) (λoO AS _ _=>by rw[Uf];exact hc.mono AS) (by rw[Uf];exact⟨[fN b],rfl,rfl,by simp⟩)
 |some x=>
  have ex:Oh b.ax[n]=x:=by
   unfold gj at hd;split at hd
   ·cases hd;rfl
   ·cases hd
  obtain⟨Xy,Jk⟩:=hg.Uu hnl Kb hd;simp only[dD];apply ws;simp only[gY,aD];have hsx:b.ax[n].move.ay=x.ay:=(rz hd).1.symm;refine Ma (p:=p) (q:=gG la lk ti tn vs (fN b)) (by have:=BP b;show(b.ax.filterMap gj).length<_;omega) (λy e' hy hpy=>?_) (λJm=>?_)
  ·apply ws;unfold dc.j3;apply vN;apply ws;refine vX (p:=p) (by show vs.reverse.length<_;omega) rfl rfl ?_;apply ws;have hpe:e'.Perm ((b.ax.set n {b.ax[n] with fate:=fate}).filterMap gj):=He Xy hpy (by rw[hy,<-ex]) Jk;have:=main ⟨la,lk,ti,tn,vs.reverse++[Z9 r1 r4],(fN b).dK,e',(fN b).clock,(fN b).ay⟩ (Z9 r1 r4::vs) (fN b::hs) {fN b with ends:=e'} (by simp[gG]) rfl hpe (by simp) (λoO AS m1 m2=>⟨?_,hc.mono AS⟩) ⟨[{fN b with ends:=(b.ax.set n {b.ax[n] with fate:=fate}).filterMap gj},fN b],rfl,rfl,by simp⟩
   ·exact this
   ·rw[ex] at m2;exact DC.end_ (p:=p) (la:=la) (lk:=lk) (c:={fN b with ends:=(b.ax.set n {b.ax[n] with fate:=fate}).filterMap gj}) (e':=(fN b).ends) m1 m2 (by have h3:=List.length_filterMap_le gj (b.ax.set n {b.ax[n] with fate:=fate});rw[iH] at h3;show List.length (List.filterMap _ _)<_;omega) (Xy.symm.trans (bt (l₁:=[x])))
  ·refine aQ ?_ (Jm x (Xy.mem_iff.1 (by simp)));rw[<-ex]
end
def kh(d c:bN):LV:=aO d++aO c
def Ce(d c:bN):∀v∈kh d c,v.oneCell'=true:=ph (iW _) (iW _)
instance{d c:bN}:Ln (kh d c) 28:=⟨rfl⟩
instance{d c:bN}:Gt (kh d c) 12 (.i d.ao):=⟨rfl⟩
instance{d c:bN}:Gt (kh d c) 26 (.i c.ao):=⟨rfl⟩
section
variable {d c e:bN} {i:Int} {x1 x2 x3 x4 x5 x6 x7 x8 x9 EC EB EA Ez ID M5 M4 YP YO Z5 Z4 Z3 Z2 Z1 Z0 ZZ ZY ZX ZW:Value}
instance:Sub (kh d c) 0 28 (kh d c):=⟨rfl,λj v h=>by rw[aD];exact h⟩
instance:Sub (kh d c) 0 14 (aO d):=⟨rfl,λj v h=>by rw[aD];unfold kh;rw[cO (av.1 h).1];exact h⟩
instance:Sub (kh d c) 14 14 (aO c):=⟨rfl,λj v h=>by
 have hl:(aO d).length=14:=rfl
 unfold kh
 rw[iJ (by omega),hl,show 14+j-14=j by omega];exact h⟩
instance:Wr (kh d c) 0 (aO e) (kh e c):=⟨rfl,by show 14<=28;decide,iW e⟩
instance:Wr (kh d c) 14 (aO e) (kh d e):=⟨rfl,by show 28<=28;decide,iW e⟩
instance:Wr (kh d c) 12 [.i i] (kh {d with ao:=i} c):=⟨rfl,by show 13<=28;decide,λv h=>by simp at h;subst h;rfl⟩
instance:Wr (kh d c) 26 [.i i] (kh d {c with ao:=i}):=⟨rfl,by show 27<=28;decide,λv h=>by simp at h;subst h;rfl⟩
instance:Wr [x1,x2,x3,x4,x5,x6,x7,x8,x9,EC,EB,EA,Ez,ID,M5,M4,YP,YO,Z5,Z4,Z3,Z2,Z1,Z0,ZZ,ZY,ZX,ZW] 0 (kh d c) (kh d c):=⟨rfl,aF _,Ce d c⟩
instance:Wr [x1,x2,x3,x4,x5,x6,x7,x8,x9,EC,EB,EA,Ez,ID,M5,M4,YP,YO,Z5,Z4,Z3,Z2,Z1,Z0,ZZ,ZY,ZX,ZW] 0 (aO d++(aO c++[])) (kh d c):=⟨rfl,aF _,by rw[bO];exact Ce d c⟩
instance:Wr [x1,x2,x3,x4,x5,x6,x7,x8,x9,EC,EB,EA,Ez,ID,M5,M4,YP,YO,Z5,Z4,Z3,Z2,Z1,Z0,ZZ,ZY,ZX,ZW] 0 [.u 0,.u 0,.u 0,.u 0,.u 0,.u 0,.u 0,.u 0,.u 0,.u 0,.i 0,.i 0,.i 0,.i 0,.u 0,.u 0,.u 0,.u 0,.u 0,.u 0,.u 0,.u 0,.u 0,.u 0,.i 0,.i 0,.i 0,.i 0] (kh zA zA):=⟨rfl,aF _,Ce zA zA⟩
end
def tV(d c:Option bN)(t:cx):Int:=match d with
 |none=>19
 |some d=>match c with
  |none=>20
  |some c=>if d.bF≠c.bF then 21 else if d.bF≠t.bF then 22 else if 8<=d.ao then 30 else if 8<=c.ao then 31 else 0
def XK{f:Int}(h0:0<=f)(h1:f<16):(de .i64 .and f 8!=0)=decide (8<=f):=by
 rw[bZ];simp only[eY,ne_eq,decide_eq_true_eq];rw[U0 h0 (by omega)];unfold has;omega
section
variable {W:World} {L R:LH} {K:VK} {X:WK} {p:Nat} {b:bh} {hs:List C} {f:bh×List C->LH} {t:cx} {d c:bN} {n:Nat}
def Xh[i:Lc (cR p) L (b,hs) f](h0:∀d c,tV (b.find t.bC) (b.find t.aU) t≠0->T W L (K (.tuple ⟨[.agg ⟨kh d c⟩,.i (tV (b.find t.bC) (b.find t.aU) t)]⟩)))
 (h:∀d c,b.find t.bC=some d->b.find t.aU=some c->tV (b.find t.bC) (b.find t.aU) t=0->T W L (K (.tuple ⟨[.agg ⟨kh d c⟩,.i 0]⟩))):T W L (zi (ah p) (aM t) K):=by
 refine qD (p:=p) λhg=>?_;unfold zi
 repeat' first|apply ws;intros|apply wb|refine wQ ?_
 cases hd:b.find t.bC with
 |none=>
  rw[hd] at h0;simp only[eX,gN];have:=h0 zA zA (by show(19:Int)≠0;decide);apply ws;exact T.dp this
 |some d=>
  cases hc:b.find t.aU with
  |none=>
   rw[hd,hc] at h0;simp only[eX,gN,dD,dz];have:=h0 zA zA (by show(20:Int)≠0;decide);apply ws;exact T.dp this
  |some c=>
   rw[hd,hc] at h0 h;have fd:=(hg.Su d (ni hd)).ao;have fc:=(hg.Su c (ni hc)).ao;simp only[dD,dz];apply ws;apply db<;>intro g1
   ·have g1:d.bF≠c.bF:=by simpa using g1
    have e:tV (some d) (some c) t=21:=ai g1;rw[e] at h0;have:=h0 zA zA (by decide);apply ws;exact T.dp this
   have g1: ¬d.bF≠c.bF:=by simpa using g1
   apply ws;apply db<;>intro g2
   ·have g2:d.bF≠t.bF:=by simpa using g2
    have e:tV (some d) (some c) t=22:=by unfold tV;dsimp only;rw[af g1,ai g2]
    rw[e] at h0;have:=h0 zA zA (by decide);apply ws;exact T.dp this
   have g2: ¬d.bF≠t.bF:=by simpa using g2
   apply ws;rw[XK fd.1 fd.2];apply fZ<;>intro g3
   ·have e:tV (some d) (some c) t=30:=by unfold tV;dsimp only;rw[af g1,af g2,ai (g3)]
    rw[e] at h0;have:=h0 zA zA (by decide);apply ws;exact T.dp this
   apply ws;rw[XK fc.1 fc.2];apply fZ<;>intro g4
   ·have e:tV (some d) (some c) t=31:=by unfold tV;dsimp only;rw[af g1,af g2,af g3,ai (g4)]
    rw[e] at h0;have:=h0 zA zA (by decide);apply ws;exact T.dp this
   have:=h d c rfl rfl (by unfold tV;dsimp only;rw[af g1,af g2,af g3,af g4]);apply ws;exact T.dp this
def adE{f:Int}(h0:0<=f)(h1:f<256):(de .i64 .and f 16!=0)=decide (has f 16):=by
 rw[bZ];simp only[eY,ne_eq,decide_eq_true_eq];rw[abR h0 h1,bp]
def adD{f:Int}(h0:0<=f)(h1:f<256):(de .i64 .and f 32!=0)=decide (has f 32):=by
 rw[bZ];simp only[eY,ne_eq,decide_eq_true_eq];rw[abQ h0 h1,bp]
def ZJ{f:Int}(h0:0<=f)(h1:f<256):(de .i64 .and f 64!=0)=decide (has f 64):=by
 rw[bZ];simp only[eY,ne_eq,decide_eq_true_eq];rw[U1 h0 h1,bp]
def Uh{f:Int}(h0:0<=f)(h1:f<256):(de .i64 .and f 128!=0)=decide (has f 128):=by
 rw[bZ];simp only[eY,ne_eq,decide_eq_true_eq];rw[Qn h0 h1,bp]
def afH{f:Int}(h0:0<=f)(h1:f<256):(de .i64 .and f 4!=0)=decide (has f 4):=by
 rw[bZ];simp only[eY,ne_eq,decide_eq_true_eq];rw[Mp h0 h1,bp]
def Rd(G:qi W)(hd:yi d)(hc:yi c)(ht:t.aT<bJ)(hf:0<=t.ao/\t.ao<256)(hz:t.aT=0->has t.ao 16\/has t.ao 32)
 (h:T W L (K (.tuple ⟨[.agg ⟨nm (cN t d c).1⟩,.i (cN t d c).2]⟩))):T W L (gv (kh d c) (aM t) K):=by
 unfold gv;have j3:∀(r1 r2 r3 r4 n1:Nat),n1<bJ->((if has t.ao 32/\(if has t.ao 32 then min n1 (iU c false) else n1)=0 then((0:Nat),(34:Int)) else(if has t.ao 32 then min n1 (iU c false) else n1,0))=cN t d c)->
  T W (Sep.pt r4 (nm n1)::Sep.pt r3 (nm 0)::Sep.pt r2 (aM t)::Sep.pt r1 (kh d c)::L) (gv.j3 K r2 r4 r1 r3):=by
  intro r1 r2 r3 r4 n1 hn1 he;unfold gv.j3;apply ws;rw[adD hf.1 hf.2];apply fZ<;>intro g1
  ·rw[ai g1] at he
   repeat' first|apply ws|apply wb|first|refine J7 G hc ?_|refine ZV ?_|refine u1 ?_
   apply fZ<;>intro g2
   ·rw[ai ⟨g1,g2⟩] at he;rw[<-he] at h;rw[g2];apply ws;exact T.dp h
   ·rw[af (λhh=>g2 hh.2)] at he;rw[<-he] at h;apply ws;exact T.dp h
  ·rw[af (λhh=>g1 hh.1),af g1] at he;rw[<-he] at h;apply ws;exact T.dp h
 have j2:∀(r1 r2 r3 r4:Nat),T W (Sep.pt r4 (nm (if t.aT=0 then bJ-1 else t.aT))::Sep.pt r3 (nm 0)::Sep.pt r2 (aM t)::Sep.pt r1 (kh d c)::L) (gv.j2 K r2 r4 r1 r3):=by
  intro r1 r2 r3 r4;have hn0:(if t.aT=0 then bJ-1 else t.aT)<bJ:=by unfold bJ at *;split<;>omega
  unfold gv.j2;apply ws;rw[adE hf.1 hf.2];apply fZ<;>intro g1
  ·repeat' first|apply ws|apply wb|first|refine J7 G hd ?_|refine ZV ?_|refine u1 ?_
   apply fZ<;>intro g2
   ·have he:cN t d c=(0,33):=by unfold cN;simp only[g1,g2,if_true,true_and]
    rw[he] at h;rw[g2];apply ws;exact T.dp h
   ·refine j3 _ _ _ _ _ (by have:=FV (p:=true) hd;omega) ?_;unfold cN;simp only[g1,g2,if_true,true_and,if_false]
  ·apply j3 _ _ _ _ _ hn0;unfold cN;simp only[g1,if_false,false_and]
 have aiC:(has t.ao 16\/has t.ao 32)->t.aT=0->(if t.aT=0 then bJ-1 else t.aT)=bJ-1:=λ_ h=>ai h
 repeat' first|apply ws;intros|apply wb|refine Gy hf ?_
 rename_i r1 r2 r3 r4;apply fZ<;>intro g1
 ·repeat' first|apply ws|apply wb|refine u1 ?_
  unfold gv.j1;apply fZ<;>intro g2
  ·apply O4 ⟨yP _,G.Xe⟩;apply ws;have:=j2 r1 r2 r3 r4;rw[ai g2] at this;exact this
  ·have:=j2 r1 r2 r3 r4;rw[af g2] at this;exact this
 ·unfold gv.j1;apply sB;have:=j2 r1 r2 r3 r4;rw[af (λhh=>g1 (hz hh))] at this;exact this
end
structure aic(t:cx):Prop where
 ao:0<=t.ao/\t.ao<=255
 id0:t.id≠0
 idM:t.id≠bJ-1
 tog:jn t.ao
 fresh:t.ay=0/\t.jO=0
 cA:0<=t.cA/\t.cA<=1073741824
 waits:0<t.cA->has t.ao 2
 ends:jM t.ao->t.pending≠0/\(0<=t.bF/\t.bF<4294967296)/\(0<=t.code/\t.code<65536)
 bQ: ¬jM t.ao->t.bC≠t.aU/\t.pending=0/\(t.aT=0->has t.ao 16\/has t.ao 32)/\(1<=t.bF/\t.bF<4294967296)/\(1<=t.code/\t.code<65536)
def CO{t:cx}(h:mM t=0):aic t:=by
 unfold mM at h;by_cases h1:t.ao<0\/255<t.ao
 ·rw[ai h1] at h;exact aQ h (by decide)
 rw[af h1] at h;by_cases h2:t.id=0
 ·rw[ai h2] at h;exact aQ h (by decide)
 rw[af h2] at h;by_cases h3:t.id=bJ-1
 ·rw[ai h3] at h;exact aQ h (by decide)
 rw[af h3] at h;by_cases h4: ¬jn t.ao
 ·rw[ai h4] at h;exact aQ h (by decide)
 rw[af h4] at h;by_cases h5:t.ay≠0\/t.jO≠0
 ·rw[ai h5] at h;exact aQ h (by decide)
 rw[af h5] at h;by_cases h6:t.cA<0\/1073741824<t.cA\/0<t.cA/\ ¬has t.ao 2
 ·rw[ai h6] at h;exact aQ h (by decide)
 rw[af h6] at h;have hw:0<t.cA->has t.ao 2:=λh0=>bp.1 λhh=>h6 (.inr (.inr ⟨h0,hh⟩));by_cases he:jM t.ao
 ·rw[ai he] at h;by_cases g1:t.pending=0
  ·rw[ai g1] at h;exact aQ h (by decide)
  rw[af g1] at h;by_cases g2:t.bF<0\/4294967296<=t.bF
  ·rw[ai g2] at h;exact aQ h (by decide)
  rw[af g2] at h;by_cases g3:t.code<0\/65536<=t.code
  ·rw[ai g3] at h;exact aQ h (by decide)
  exact⟨by omega,h2,h3,bp.1 h4,by omega,by omega,hw,λ_=>⟨g1,by omega,by omega⟩,λhh=>aQ he hh⟩
 ·rw[af he] at h;by_cases g1:t.bC=0
  ·rw[ai g1] at h;exact aQ h (by decide)
  rw[af g1] at h;by_cases g2:t.aU=0
  ·rw[ai g2] at h;exact aQ h (by decide)
  rw[af g2] at h;by_cases g3:t.bC=t.aU
  ·rw[ai g3] at h;exact aQ h (by decide)
  rw[af g3] at h;by_cases g4:t.pending≠0
  ·rw[ai g4] at h;exact aQ h (by decide)
  rw[af g4] at h;by_cases g5:t.aT=0/\ ¬has t.ao 16/\ ¬has t.ao 32
  ·rw[ai g5] at h;exact aQ h (by decide)
  rw[af g5] at h;by_cases g6:t.bF<1\/4294967296<=t.bF
  ·rw[ai g6] at h;exact aQ h (by decide)
  rw[af g6] at h;by_cases g7:t.code<1\/65536<=t.code
  ·rw[ai g7] at h;exact aQ h (by decide)
  refine⟨by omega,h2,h3,bp.1 h4,by omega,by omega,hw,λhh=>aQ hh he,λ_=>⟨g3,by omega,λh0=>?_,by omega,by omega⟩⟩;by_cases q:has t.ao 16
  ·exact .inl q
  ·by_cases q2:has t.ao 32
   ·exact .inr q2
   ·exact aQ ⟨h0,q,q2⟩ g5
section
variable {b:bh} {t:cx} {d c:bN} {n:Nat} {q:Bool}
def wF(hg:fk b){id:Nat}(hd:b.find id=some d):AG d/\d.id=id:=⟨hg.Su d (ni hd),by simpa using List.find?_some hd⟩
def PD{s:Bool}(hd:AG d)(hm:(more d s n q).2=0):AG (more d s n q).1/\(more d s n q).1.id=d.id/\(more d s n q).1.ay=d.ay:=by
 obtain⟨⟨i1,i2,i3,i4,i5,i6,i7,i8,i9⟩,i10,i11,i12⟩:=hd;unfold more at hm⊢;cases s with
 |false=>
  simp only[cG,if_false] at hm⊢;by_cases h1:bJ<=d.cp+d.cq+n
  ·rw[ai h1] at hm;exact aQ hm (by show ¬(32:Int)=0;decide)
  by_cases h2:has d.ao 4/\iU d false<n
  ·rw[af h1,ai h2] at hm;exact aQ hm (by show ¬(34:Int)=0;decide)
  rw[af h1,af h2];cases q with
  |true=>exact⟨⟨⟨i1,i2,i3,by show d.cp+n<bJ;omega,i5,i6,i7,i8,i9⟩,i10,i11,i12⟩,rfl,rfl⟩
  |false=>exact⟨⟨⟨i1,i2,i3,i4,by show d.cq+n<bJ;omega,i6,i7,i8,i9⟩,i10,i11,i12⟩,rfl,rfl⟩
 |true=>
  simp only[if_true] at hm⊢;by_cases h1:bJ<=d.dp+d.dq+n
  ·rw[ai h1] at hm;exact aQ hm (by show ¬(32:Int)=0;decide)
  by_cases h2:has d.ao 2/\iU d true<n
  ·rw[af h1,ai h2] at hm;exact aQ hm (by show ¬(33:Int)=0;decide)
  rw[af h1,af h2];cases q with
  |true=>exact⟨⟨⟨i1,by show d.dp+n<bJ;omega,i3,i4,i5,i6,i7,i8,i9⟩,i10,i11,i12⟩,rfl,rfl⟩
  |false=>exact⟨⟨⟨i1,i2,by show d.dq+n<bJ;omega,i4,i5,i6,i7,i8,i9⟩,i10,i11,i12⟩,rfl,rfl⟩
def Mb(hd:AG d){yes:Prop}[Decidable yes]:AG (close d yes)/\(close d yes).id=d.id/\(close d yes).ay=d.ay:=by
 obtain⟨⟨i1,i2,i3,i4,i5,i6,i7,i8,i9⟩,i10,i11,i12⟩:=hd;unfold close;split
 ·have hf:0<=d.ao%8+8/\d.ao%8+8<16:=by omega
  exact⟨⟨⟨i1,i2,i3,i4,i5,i6,i7,by show u2 (d.ao%8+8);unfold u2;omega,i9⟩,⟨i10.1,i10.2.1,by show 0<=d.ao%8+8/\d.ao%8+8<=65535;omega⟩,hf,i12⟩,rfl,rfl⟩
 ·exact⟨⟨⟨i1,i2,i3,i4,i5,i6,i7,i8,i9⟩,i10,i11,i12⟩,rfl,rfl⟩
def Hf{a x:bN}{id:Nat}(hx:b.find id=some x)(jW:a.id≠id):(b.bB a).find id=some x:=by
 unfold bh.find at *;show(b.aB.map λx=>if x.id=a.id then{a with ay:=x.ay} else x).find? _=_;rw[List.find?_map];have:((λy:bN=>decide (y.id=id))∘λx=>if x.id=a.id then{a with ay:=x.ay} else x)=λy:bN=>decide (y.id=id):=by
  funext y
  simp only[Function.comp];by_cases e:y.id=a.id<;>simp[e]
 rw[this,hx];have hxi:x.id=id:=by simpa using List.find?_some hx
 simp only[fF];rw[af (by rw[hxi];exact λh=>jW h.symm)]
def vG(hg:fk b){id:Nat}{k:cr}(hk:b.named id=some k):KG k/\k.move.id=id:=⟨hg.Sh k (ni hk),by simpa using List.find?_some hk⟩
end
section
variable {W:World} {L R:LH} {K:VK} {X:WK} {p:Nat} {b:bh} {hs:List C} {f:bh×List C->LH} {t:cx} {d c:bN} {n:Nat}
def Rc(h1:mM t=0)(h2: ¬jM t.ao)(h3:b.named t.id=none)(h4:b.find t.bC=some d)(h5:b.find t.aU=some c)(h6:tV (some d) (some c) t=0):
 iT t (b.named t.id) (b.find t.bC) (b.find t.aU) b.ax.length=(if 96<=b.ax.length then(35,0)
  else if(cN t d c).2≠0 then((cN t d c).2,0)
  else if(more d true (cN t d c).1 (decide (has t.ao 2))).2≠0 then((more d true (cN t d c).1 (decide (has t.ao 2))).2,0)
  else if(more c false (cN t d c).1 (decide (has t.ao 2))).2≠0 then((more c false (cN t d c).1 (decide (has t.ao 2))).2,0)
  else(0,(cN t d c).1)):=by
 unfold tV at h6;dsimp only at h6;unfold iT;rw[af (by simpa using h1),af h2,h3,h4,h5];dsimp only;by_cases g1:d.bF≠c.bF
 ·rw[ai g1] at h6;cases h6
 by_cases g2:d.bF≠t.bF
 ·rw[af g1,ai g2] at h6;cases h6
 by_cases g3:8<=d.ao
 ·rw[af g1,af g2,ai g3] at h6;cases h6
 by_cases g4:8<=c.ao
 ·rw[af g1,af g2,af g3,ai g4] at h6;cases h6
 rw[af g1,af g2,af g3,af g4]
def Zm(G:qi W)(ht:yf t)(T0:kB t)(hl:hs.length<800000)[i:Lc (cR p) L (b,hs) f]
 (h:∀fC,Ext (fN b) hs (fN (b.move t).2) fC 6->T W (f ((b.move t).2,fC)) (K (.i (b.move t).1))):T W L (pQ (ah p) (aM t) K):=by
 have hL:f (b,hs)=L:=i.same;refine qD (p:=p) λhg=>?_;have bad:∀r:Int,r≠0->(iT t (b.named t.id) (b.find t.bC) (b.find t.aU) b.ax.length).1=r->T W L (K (.i r)):=by
  intro r hr he;have e:b.move t=(r,b):=by unfold bh.move;dsimp only;rw[he,ai hr]
  rw[e] at h;have:=h hs (Ext.refl _ _ _);rw[hL] at this;exact this
 unfold pQ
 repeat' first|apply ws;intros|apply wb|refine Kx G ht ?_
 apply db<;>intro g1
 ·have g1:mM t≠0:=by simpa using g1
  have:=bad (mM t) g1 (by unfold iT;rw[ai g1]);exact T.dp this
 have g1:mM t=0:=by simpa using g1
 have ck:=CO g1;have hf:0<=t.ao/\t.ao<256:=by have:=ck.ao;omega
 repeat' first|apply ws|apply wb|refine J9 hf ?_
 apply fZ<;>intro g2
 ·have:=bad 6 (by decide) (by unfold iT;rw[af (by simpa using g1),ai g2]);exact T.dp this
 repeat' first|apply ws;intros|apply wb|refine J3 ?_
 cases hn:b.named t.id with
 |some k=>
  obtain⟨hk,_⟩:=vG hg hn;simp only[dD,dz]
  repeat' first|apply ws|apply wb|refine Ky hf hk.uZ ?_
  have:=bad (qf t k.asked) (qz _ _) (by unfold iT;rw[af (by simpa using g1),af g2,hn]);exact T.dp this
 |none=>
 simp only[eX,gN];have key:∀(d c:Option bN),b.find t.bC=d->b.find t.aU=c->tV d c t≠0->(iT t (b.named t.id) (b.find t.bC) (b.find t.aU) b.ax.length).1=tV d c t:=by
  intro d c hd hc jW;rw[hd,hc,hn];unfold iT;rw[af (by simpa using g1),af g2];dsimp only;cases d with
  |none=>rfl
  |some d=>
   cases c with
   |none=>rfl
   |some c=>
    unfold tV at jW⊢;dsimp only at jW⊢;by_cases g1:d.bF≠c.bF
    ·rw[ai g1,ai g1]
    by_cases g2:d.bF≠t.bF
    ·rw[af g1,ai g2,af g1,ai g2]
    by_cases g3:8<=d.ao
    ·rw[af g1,af g2,ai g3,af g1,af g2,ai g3]
    by_cases g4:8<=c.ao
    ·rw[af g1,af g2,af g3,ai g4,af g1,af g2,af g3,ai g4]
    rw[af g1,af g2,af g3,af g4] at jW;exact aQ rfl jW
 apply ws;refine Xh (λd c jW=>?_) (λd c hd hc he=>?_)
 ·apply ws;intros;apply kL (by simpa using jW);have:=bad _ jW (key _ _ rfl rfl jW);exact T.dp this
 apply ws;intros;obtain⟨gd,Kc⟩:=wF hg hd;obtain⟨gc,Js⟩:=wF hg hc;rw[hd,hc] at he;have Qa:=Rc (b:=b) g1 g2 hn hd hc he;apply eO (by simp)
 repeat' first|apply ws|apply wb|refine Vl ?_
 by_cases g3:96<=b.ax.length
 ·rw[aq (by omega)];apply ws;have:=bad 35 (by decide) (by rw[Qa,ai g3]);exact T.dp this
 rw[aw (by omega)];rw[af g3] at Qa;obtain⟨jW,aif,XN,aiu,ZF⟩:=ck.bQ g2
 repeat' first|apply ws;intros|apply wb|refine Rd G gd.ok gc.ok ht.aT hf XN ?_
 apply db<;>intro g4
 ·have g4:(cN t d c).2≠0:=by simpa using g4
  have:=bad _ g4 (by rw[Qa,ai g4]);exact T.dp this
 have g4: ¬(cN t d c).2≠0:=by simpa using g4
 rw[af g4] at Qa;have H0:(cN t d c).1<bJ:=by
  have h1:=FV (p:=true) gd.ok;have h2:=FV (p:=false) gc.ok;have h3:=ht.aT;unfold cN bJ at *;dsimp only
  repeat' split
  all_goals first|(show(0:Nat)<_;omega)|(show min _ _<_;omega)|(show _<_;split<;>omega)|omega
 generalize hN:(cN t d c).1=N at *
 repeat' first|apply ws|apply wb|first|refine uE hf ?_|refine YE G gd.ok H0 ⟨gd.ao.1,by have:=gd.ao.2;omega⟩ ?_
 apply db<;>intro g5
 ·have g5:(more d true N (decide (has t.ao 2))).2≠0:=by simpa using g5
  have:=bad _ g5 (by rw[Qa,ai g5]);exact T.dp this
 have g5: ¬(more d true N (decide (has t.ao 2))).2≠0:=by simpa using g5
 rw[af g5] at Qa
 repeat' first|apply ws|apply wb|first|refine uE hf ?_|refine Vy G gc.ok H0 ⟨gc.ao.1,by have:=gc.ao.2;omega⟩ ?_
 apply db<;>intro g6
 ·have g6:(more c false N (decide (has t.ao 2))).2≠0:=by simpa using g6
  have:=bad _ g6 (by rw[Qa,ai g6]);exact T.dp this
 have g6: ¬(more c false N (decide (has t.ao 2))).2≠0:=by simpa using g6
 rw[af g6] at Qa;obtain⟨md,mdi,mds⟩:=PD (q:=decide (has t.ao 2)) gd (bp.1 g5);obtain⟨mc,mci,mcs⟩:=PD (q:=decide (has t.ao 2)) gc (bp.1 g6);have e:b.move t=(0,b.Dd t N):=by unfold bh.move;dsimp only;rw[Qa];rfl
 rw[e] at h;have em:b.Dd t N=((b.bB (close (more d true N (decide (has t.ao 2))).1 (has t.ao 64))).bB (close (more c false N (decide (has t.ao 2))).1 (has t.ao 128))).nj t {t with aT:=N} (waits t):=by unfold bh.Dd;rw[hd,hc]
 rw[em] at h;have last:∀(D C:bN)(r1 r2 r3 r4:Nat),AG D->AG C->D.id=d.id->C.id=c.id->D.ay=d.ay->C.ay=c.ay->
    (∀fC,Ext (fN b) hs (fN (((b.bB D).bB C).nj t {t with aT:=N} (waits t))) fC 6->T W (f (((b.bB D).bB C).nj t {t with aT:=N} (waits t),fC)) (K (.i 0)))->
    T W (Sep.pt r4 (nm N)::Sep.pt r3 (kh D C)::Sep.pt r2 (bM zK)::Sep.pt r1 (aM t)::L) (pQ.j2 K r3 (ah p) r1 r4):=by
  intro D C r1 r2 r3 r4 gD gC hDi hCi hDs hCs hh;have ZC:b.find D.id=some d:=by rw[hDi,Kc];exact hd
  have eD:({D with ay:=d.ay}:bN)=D:=by rw[<-hDs]
  have eC:({C with ay:=c.ay}:bN)=C:=by rw[<-hCs]
  have ZD:(b.bB D).find C.id=some c:=Hf (by rw[hCi,Js];exact hc) (by rw[hDi,hCi,Kc,Js];exact jW);have u7:=hg.ay;have oS:=hg.oS;have many:=hg.many;unfold pQ.j2;apply ws;refine JW (p:=p) ZC (by rw[eD];exact gD) (by omega) λAS x1=>?_;have l1:=x1.len;have i1:=i.next (b.bB D,AS);apply ws;refine JW (p:=p) ZD (by rw[eC];exact gC) (by omega) λgI x2=>?_;have l2:=x2.len;have i2:=i.next ((b.bB D).bB C,gI)
  repeat' first|apply ws;intros|apply wb|refine uE hf ?_
  have hkg:KG (tz ((b.bB D).bB C) t {t with aT:=N} (waits t)):=by
   have cl:=hg.clock;refine⟨ht,⟨ht.id,ht.bC,ht.aU,H0,ht.pending,ht.cA,ht.bF,ht.code,ht.ao,?_,?_⟩,T0,T0,hf,hf,?_,ck.cA,cl⟩
   ·show u2 (b.ay+1);unfold u2;omega
   ·show u2 b.clock;unfold u2;omega
   ·show 0<=waits t/\waits t<=4;unfold Md.waits;split<;>decide
  have MO:((b.bB D).bB C).named ({t with aT:=N}:cx).id=none:=hn;refine Pj (p:=p) (waits:=decide (has t.ao 2)) MO (show b.ax.length<96 by omega) hkg (by unfold Md.waits;by_cases q:has t.ao 2<;>simp[q]) (by omega) λvY x3=>?_;apply ws;have:=hh vY (((x1.trans x2).trans x3).mono (by omega));exact T.dp this
 obtain⟨cd,cdi,cds⟩:=Mb (yes:=has t.ao 64) md;obtain⟨cc,cci,ccs⟩:=Mb (yes:=has t.ao 128) mc;have Zn:∀(D:bN)(r1 r2 r3 r4:Nat),D=close (more d true N (decide (has t.ao 2))).1 (has t.ao 64)->T W (Sep.pt r4 (nm N)::Sep.pt r3 (kh D (more c false N (decide (has t.ao 2))).1)::Sep.pt r2 (bM zK)::Sep.pt r1 (aM t)::L) (pQ.j1 K r1 r3 (ah p) r4):=by
  intro D r1 r2 r3 r4 hD;unfold pQ.j1;apply ws;rw[Uh hf.1 hf.2];have fin:=last D (close (more c false N (decide (has t.ao 2))).1 (has t.ao 128)) r1 r2 r3 r4 (by rw[hD];exact cd) cc (by rw[hD,cdi,mdi]) (by rw[cci,mci]) (by rw[hD,cds,mds]) (by rw[ccs,mcs]) (by rw[hD];exact h);apply fZ<;>intro q
  ·apply ws;rw[aeH mc.ao.1 mc.ao.2];unfold close at fin;rw[ai q] at fin;exact fin
  ·unfold close at fin;rw[af q] at fin;exact fin
 apply ws;rw[ZJ hf.1 hf.2];apply fZ<;>intro q
 ·apply ws;rw[aeH md.ao.1 md.ao.2];exact Zn _ _ _ _ _ (by unfold close;rw[ai q])
 ·exact Zn _ _ _ _ _ (by unfold close;rw[af q])
end
section
variable {m t:cx} {x1 x2 x3 x4 x5 x6 x7 x8 x9 EC EB EA Ez ID M5 M4:Value} {n:Nat} {i:Int}
instance:Wr (aM m) 2 (nm n) (aM {m with bC:=n}):=⟨rfl,by show 4<=16;decide,oJ n⟩
instance:Wr (aM m) 4 (nm n) (aM {m with aU:=n}):=⟨rfl,by show 6<=16;decide,oJ n⟩
end
section
variable {W:World} {L R:LH} {K:VK} {X:WK} {p:Nat} {b:bh} {hs:List C} {f:bh×List C->LH} {t q:cx} {d c:bN} {n:Nat} {fate:Int} {k:cr}
def Xd(h:T W L (K (.b (decide (¬fP t q))))):T W L (gF (aM t) (aM q) K):=by
 unfold gF;have j3:∀(r1 r2:Nat)(x:Bool),((x=true/\(t.code=0\/t.code=q.code))↔ ¬fP t q)->T W (Sep.pt r2 (aM q)::Sep.pt r1 (aM t)::L) (gF.j3 K r1 r2 x):=by
  intro r1 r2 x hx;unfold gF.j3;apply db<;>intro g
  ·repeat' first|apply ws|apply wb|apply db<;>intro h1
   ·have h1:t.code=0:=by simpa using h1
    rw[aw (hx.1 ⟨g,.inl h1⟩)] at h;exact T.dp h
   ·have h1: ¬t.code=0:=by simpa using h1
    apply T.fin (T.dp h)
    congr 1
    rw[bZ];simp only[vL,decide_eq_true_eq];rw[<-hx]
    constructor
    ·exact λe=>⟨g,.inr e⟩
    ·rintro⟨_,e|e⟩
     ·exact aQ e h1
     ·exact e
  ·rw[aq (λhh=>by rw[(hx.2 hh).1] at g;cases g)] at h;exact T.dp h
 have j2:∀(r1 r2:Nat)(x:Bool),((x=true/\(t.bF=0\/t.bF=q.bF)/\(t.code=0\/t.code=q.code))↔ ¬fP t q)->T W (Sep.pt r2 (aM q)::Sep.pt r1 (aM t)::L) (gF.j2 K r1 r2 x):=by
  intro r1 r2 x hx;unfold gF.j2;apply db<;>intro g
  ·repeat' first|apply ws|apply wb|with_reducible apply db<;>intro h1
   ·have h1:t.bF=0:=by simpa using h1
    exact j3 _ _ _ (by rw[<-hx];simp[g,h1])
   ·have h1: ¬t.bF=0:=by simpa using h1
    exact j3 _ _ _ (by rw[<-hx];simp[g,h1])
  ·exact j3 _ _ _ (by rw[<-hx];simp[g])
 have j1:∀(r1 r2:Nat)(x:Bool),((x=true/\(t.aU=0\/t.aU=q.aU)/\(t.bF=0\/t.bF=q.bF)/\(t.code=0\/t.code=q.code))↔ ¬fP t q)->T W (Sep.pt r2 (aM q)::Sep.pt r1 (aM t)::L) (gF.j1 K r1 r2 x):=by
  intro r1 r2 x hx;unfold gF.j1;apply db<;>intro g
  ·repeat' first|apply ws|apply wb|with_reducible first|refine u1 ?_|apply db<;>intro h1
   ·have h1:=aS h1;exact j2 _ _ _ (by rw[<-hx];simp[g,h1])
   ·have h1:=bq h1;exact j2 _ _ _ (by rw[<-hx];simp[g,h1])
  ·exact j2 _ _ _ (by rw[<-hx];simp[g])
 have Jm:((t.bC=0\/t.bC=q.bC)/\(t.aU=0\/t.aU=q.aU)/\(t.bF=0\/t.bF=q.bF)/\(t.code=0\/t.code=q.code))↔ ¬fP t q:=by unfold fP;omega
 repeat' first|apply ws;intros|apply wb|with_reducible first|refine u1 ?_|apply db<;>intro h1
 ·have h1:=aS h1;exact j1 _ _ _ (by rw[<-Jm];simp[h1])
 ·have h1:=bq h1;exact j1 _ _ _ (by rw[<-Jm];simp[h1])
def oa(pend:Option cr)(t:cx):Int:=match pend with
 |none=>23
 |some k=>if ¬has k.move.ao 2 then 24 else if fP t k.move then 25 else if 1<k.fate then 25+k.fate else 0
def XG(G:qi W)[i:Lc (cR p) L (b,hs) f](h0:∀m,oa (b.named t.pending) t≠0->T W L (K (.tuple ⟨[.agg ⟨aM m⟩,.i (oa (b.named t.pending) t)]⟩)))
 (h:∀k,b.named t.pending=some k->oa (b.named t.pending) t=0->T W L (K (.tuple ⟨[.agg ⟨aM k.move⟩,.i 0]⟩))):T W L (zm (ah p) (aM t) K):=by
 refine qD (p:=p) λhg=>?_;unfold zm
 repeat' first|apply ws;intros|apply wb|refine J3 ?_
 cases hn:b.named t.pending with
 |none=>
  rw[hn] at h0;simp only[eX,gN];have:=h0 zT (by show(23:Int)≠0;decide);apply ws;exact T.dp this
 |some k=>
  rw[hn] at h0 h;obtain⟨kg,_⟩:=vG hg hn;simp only[dD,dz]
  repeat' first|apply ws|apply wb|refine uE kg.wq ?_
  by_cases g1:has k.move.ao 2
  ·rw[aw g1]
   repeat' first|apply ws|apply wb|refine Xd ?_
   by_cases g2:fP t k.move
   ·have e:oa (some k) t=25:=by unfold oa;dsimp only;rw[af (λh=>h g1),ai g2]
    rw[e] at h0;have:=h0 zT (by decide);rw[aq (λh=>h g2)];apply ws;exact T.dp this
   ·rw[aw g2];obtain⟨f1,f2⟩:=kg.fate;have e:oa (some k) t=if 1<k.fate then 25+k.fate else 0:=by unfold oa;dsimp only;rw[af (λh=>h g1),af g2]
    obtain⟨fn,hfn⟩:∃fn:Nat,k.fate=fn:=⟨k.fate.toNat,by omega⟩;have Jq:fn<5:=by omega
    have VJ:([.i 0,.i 0,.i 27,.i 28,.i 29]:LV)[fn]?=some (.i (if 1<k.fate then 25+k.fate else 0)):=by
     rw[hfn]
     match fn,Jq with
     |0,_=>rfl
     |1,_=>rfl
     |2,_=>rfl
     |3,_=>rfl
     |4,_=>rfl
    apply ws;refine dJ ⟨f1,by omega⟩ ?_;have hnt:k.fate.toNat* 1=fn:=by omega
    rw[hnt];have zW:=G.told fn _ VJ;refine λw gI=>⟨_,by rw[gI.old (El zW)];exact zW,?_⟩;refine T.at ?_ gI;apply ws;refine λw gI=>⟨λj v hj=>?_,?_⟩
    ·match j,hj with
     |0,hj=>
      simp at hj;subst hj;have Sn:=zW;rw[gY,aD] at Sn;rw[gY,gK,gI.old (El Sn)];exact Sn
    refine T.at ?_ gI;apply ws;rw[<-e];by_cases g3:oa (some k) t=0
    ·rw[g3];have:=h k rfl g3;exact T.dp this
    ·have:=h0 k.move g3;exact T.dp this
  ·have e:oa (some k) t=24:=by unfold oa;dsimp only;rw[ai g1]
   rw[e] at h0;have:=h0 zT (by decide);rw[aq g1];apply ws;exact T.dp this
def adC{f:Int}(h0:0<=f)(h1:f<256):(de .i64 .and f 8!=0)=decide (has f 8):=by
 rw[bZ];simp only[eY,ne_eq,decide_eq_true_eq];rw[U0 h0 h1,bp]
def Rx(hf:0<=t.ao/\t.ao<256)(h48:has t.ao 8↔ ¬has t.ao 4)(h0:mA t q->T W L (K (.tuple ⟨[.agg ⟨nm 0⟩,.i 26]⟩)))
 (h: ¬mA t q->T W L (K (.tuple ⟨[.agg ⟨nm (dw t q)⟩,.i 0]⟩))):T W L (oY (aM t) (aM q) K):=by
 unfold oY
 repeat' first|apply ws;intros|apply wb|refine u1 ?_
 apply fZ<;>intro g1
 ·have e:dw t q=q.aT:=ai g1;have hb: ¬mA t q:=by unfold mA;rw[e];omega
  have:=h hb;rw[e] at this;apply ws;exact T.dp this
 have e:dw t q=t.aT:=af g1;unfold oY.j1;apply ws;rw[adC hf.1 hf.2];apply fZ<;>intro g2
 ·apply ws;by_cases g3:t.aT=q.aT
  ·have hb: ¬mA t q:=by
    unfold mA;rw[e];have:=h48.1 g2;rintro(⟨h4,_⟩|⟨_,h4⟩)
    ·exact this h4
    ·exact h4 g3
   have:=h hb;rw[e] at this;rw[aw g3]
   repeat' first|apply ws|apply wb|refine CV ?_
   refine eO (by simp;omega) ?_;apply ws;exact T.dp this
  ·have hb:mA t q:=.inr ⟨h48.1 g2,by rw[e];exact g3⟩;have:=h0 hb;rw[aq g3];apply ws;exact T.dp this
 ·have g4:has t.ao 4:=bp.1 λhh=>g2 (h48.2 hh)
  repeat' first|apply ws|apply wb|refine CV ?_
  apply fZ<;>intro g3
  ·have:=h0 (.inl ⟨g4,by rw[e];exact g3⟩);apply ws;exact T.dp this
  ·have:=h (by
    rintro(⟨_,h4⟩|⟨h4,_⟩)
    ·rw[e] at h4;exact g3 h4
    ·exact h4 g4)
   rw[e] at this;apply ws;exact T.dp this
def abm{f:Int}(h0:0<=f)(h1:f<256):(de .i64 .and f 64==0)=decide (¬has f 64):=by
 rw[bZ];simp only[vL,decide_eq_true_eq];rw[U1 h0 h1]
def XL{f:Int}(h0:0<=f)(h1:f<256):(de .i64 .and f 128==0)=decide (¬has f 128):=by
 rw[bZ];simp only[vL,decide_eq_true_eq];rw[Qn h0 h1]
def Rw[i:Lc (cR p) L (b,hs) f](hq:0<=q.ao/\q.ao<256)(hd:b.find q.bC=some d)(hc:b.find q.aU=some c)
 (h:T W L (K (.i (if 8<=d.ao/\ ¬has q.ao 64 then 30 else if 8<=c.ao/\ ¬has q.ao 128 then 31 else 0)))):T W L (nK (ah p) (aM q) K):=by
 refine qD (p:=p) λhg=>?_;have fd:=(hg.Su d (ni hd)).ao;have fc:=(hg.Su c (ni hc)).ao;unfold nK
 repeat' first|apply ws;intros|apply wb|refine wQ ?_
 rw[hd,hc];simp only[dD,dz];rename_i r1 r2 r3;have j1:∀x:Bool,(x=true↔(8<=d.ao/\ ¬has q.ao 64))->T W (Sep.pt r3 (aO c)::Sep.pt r2 (aO d)::Sep.pt r1 (aM q)::L) (nK.j1 K r3 r1 x):=by
  intro x hx;unfold nK.j1;apply db<;>intro g
  ·rw[ai (hx.1 g)] at h;exact T.dp h
  rw[af (λhh=>by rw[hx.2 hh] at g;cases g)] at h;apply ws;rw[XK fc.1 fc.2];apply fZ<;>intro g1
  ·apply ws;rw[XL hq.1 hq.2];apply fZ<;>intro g2
   ·rw[ai ⟨g1,g2⟩] at h;exact T.dp h
   ·rw[af (λhh=>g2 hh.2)] at h;exact T.dp h
  ·rw[af (λhh=>g1 hh.1)] at h;exact T.dp h
 rw[XK fd.1 fd.2];apply fZ<;>intro g1
 ·apply ws;rw[abm hq.1 hq.2];exact j1 _ (by simp[g1])
 ·exact j1 _ (by simp[g1])
end
section
variable {b:bh} {t q:cx} {d c:bN} {n:Nat} {fate:Int}
def WL(hd:AG d)(hn:fate=2->d.dq+n<bJ):AG (An d q n fate):=by
 obtain⟨⟨i1,i2,i3,i4,i5,i6,i7,i8,i9⟩,i10,i11,i12⟩:=hd;have hf:0<=d.ao%8/\d.ao%8<16:=by omega
 unfold An open_;split
 ·exact⟨⟨i1,by show d.dp-q.aT<bJ;omega,by show d.dq+n<bJ;exact hn (by assumption),i4,i5,i6,i7,i8,i9⟩,i10,i11,i12⟩
 ·split
  ·exact⟨⟨i1,by show d.dp-q.aT<bJ;omega,i3,i4,i5,i6,i7,by show u2 (d.ao%8);unfold u2;omega,i9⟩,⟨i10.1,i10.2.1,by show 0<=d.ao%8/\d.ao%8<=65535;omega⟩,hf,i12⟩
  ·exact⟨⟨i1,by show d.dp-q.aT<bJ;omega,i3,i4,i5,i6,i7,i8,i9⟩,i10,i11,i12⟩
def WM(hd:AG d)(hn:fate=2->d.cq+n<bJ):AG (Bm d q n fate):=by
 obtain⟨⟨i1,i2,i3,i4,i5,i6,i7,i8,i9⟩,i10,i11,i12⟩:=hd;have hf:0<=d.ao%8/\d.ao%8<16:=by omega
 unfold Bm open_;split
 ·exact⟨⟨i1,i2,i3,by show d.cp-q.aT<bJ;omega,by show d.cq+n<bJ;exact hn (by assumption),i6,i7,i8,i9⟩,i10,i11,i12⟩
 ·split
  ·exact⟨⟨i1,i2,i3,by show d.cp-q.aT<bJ;omega,i5,i6,i7,by show u2 (d.ao%8);unfold u2;omega,i9⟩,⟨i10.1,i10.2.1,by show 0<=d.ao%8/\d.ao%8<=65535;omega⟩,hf,i12⟩
  ·exact⟨⟨i1,i2,i3,by show d.cp-q.aT<bJ;omega,i5,i6,i7,i8,i9⟩,i10,i11,i12⟩
end
section
variable {W:World} {L R:LH} {K:VK} {X:WK} {p:Nat} {b:bh} {hs:List C} {f:bh×List C->LH} {t q:cx} {d c:bN} {n:Nat} {fate:Int} {k:cr}
def Hs[i:Lc (cR p) L (b,hs) f](hk:b.named q.id=some k)(XD:k.fate=1)(hq:0<=q.ao/\q.ao<256)(hqa:q.aT<bJ)(H0:n<bJ)(hd:b.find q.bC=some d)(hc:b.find q.aU=some c)(jW:q.bC≠q.aU)(hf:fate=2\/fate=3\/fate=4)
 (Kb:fate=2->d.dq+n<bJ)(vd:fate=2->c.cq+n<bJ)(hl:hs.length<800000)
 (h:∀fC,Ext (fN b) hs (fN (b.release q n fate)) fC 4->T W (f (b.release q n fate,fC)) (K (.tuple ⟨[]⟩))):T W L (dW (ah p) (aM q) (nm n) fate K):=by
 refine qD (p:=p) λhg=>?_;obtain⟨gd,Kc⟩:=wF hg hd;obtain⟨gc,Js⟩:=wF hg hc;have er:b.release q n fate=((b.bB (An d q n fate)).bB (Bm c q n fate)).fate q.id fate:=by unfold bh.release;rw[hd,hc]
 rw[er] at h;have last:∀(D E:bN)(r1 r2 r3 r4:Nat),D=An d q n fate->E=Bm c q n fate->T W (Sep.pt r4 (aO E)::Sep.pt r3 (aO D)::Sep.pt r2 (nm n)::Sep.pt r1 (aM q)::L) (dW.j1 K r3 (ah p) r4 r1 fate):=by
  intro D E r1 r2 r3 r4 hD hE;have hDi:D.id=d.id:=by rw[hD];exact(IY _ _ _ _).1
  have hEi:E.id=c.id:=by rw[hE];exact(IZ _ _ _ _).1
  have gD:AG {D with ay:=d.ay}:=by
   have:=WL (q:=q) (n:=n) (fate:=fate) gd Kb;rw[<-hD] at this;have es:D.ay=d.ay:=by rw[hD];exact(IY _ _ _ _).2
   have e2:({D with ay:=d.ay}:bN)=D:=by rw[<-es]
   rw[e2];exact this
  have gE:AG {E with ay:=c.ay}:=by
   have:=WM (q:=q) (n:=n) (fate:=fate) gc vd;rw[<-hE] at this;have es:E.ay=c.ay:=by rw[hE];exact(IZ _ _ _ _).2
   have e2:({E with ay:=c.ay}:bN)=E:=by rw[<-es]
   rw[e2];exact this
  rw[<-hD,<-hE] at h;unfold dW.j1;apply ws;refine JW (p:=p) (by rw[hDi,Kc];exact hd) gD (by omega) λAS x1=>?_;have l1:=x1.len;have i1:=i.next (b.bB D,AS);apply ws;refine JW (p:=p) (old:=c) (Hf (by rw[hEi,Js];exact hc) (by rw[hDi,hEi,Kc,Js];exact jW)) gE (by omega) λgI x2=>?_;have l2:=x2.len;have i2:=i.next ((b.bB D).bB E,gI);apply ws;refine aay (p:=p) (k:=k) (show((b.bB D).bB E).named q.id=some k from hk) XD hf (by omega) λvY x3=>?_;apply ws;have:=h vY (((x1.trans x2).trans x3).mono (by omega));exact T.dp this
 have acz:∀x y:Nat,(if x<y then 0 else x-y)=x-y:=λx y=>by split<;>omega
 unfold dW
 repeat' first|apply ws;intros|apply wb|refine wQ ?_
 rw[hd,hc];simp only[dD,dz]
 repeat' first|apply ws|apply wb|first|refine Vf gd.ok.dp hqa ?_|refine Vf gc.ok.cp hqa ?_
 rw[acz,acz];apply db<;>intro g1
 ·have g1:fate=2:=by simpa using g1
  repeat' first|apply ws|apply wb|first|refine DD gd.ok.dq H0 ?_|refine DD gc.ok.cq H0 ?_
  rw[ai (Kb g1),ai (vd g1)];refine last _ _ _ _ _ _ ?_ ?_
  ·unfold An;rw[ai g1]
  ·unfold Bm;rw[ai g1]
 ·have g1: ¬fate=2:=by simpa using g1
  have j2:∀(D:bN)(r1 r2 r3 r4:Nat),D=An d q n fate->T W (Sep.pt r4 (aO {c with cp:=c.cp-q.aT})::Sep.pt r3 (aO D)::Sep.pt r2 (nm n)::Sep.pt r1 (aM q)::L) (dW.j2 K r1 r4 r3 (ah p) fate):=by
   intro D r1 r2 r3 r4 hD;unfold dW.j2;apply ws;rw[Uh hq.1 hq.2];apply fZ<;>intro g2
   ·apply ws;rw[ZO gc.ao.1 gc.ao.2];apply last _ _ _ _ _ _ hD;unfold Bm open_;rw[af g1,ai g2]
   ·apply last _ _ _ _ _ _ hD;unfold Bm open_;rw[af g1,af g2]
  apply ws;rw[ZJ hq.1 hq.2];apply fZ<;>intro g2
  ·apply ws;rw[ZO gd.ao.1 gd.ao.2];apply j2 _ _ _ _ _;unfold An open_;rw[af g1,ai g2]
  ·apply j2 _ _ _ _ _;unfold An open_;rw[af g1,af g2]
structure MA(b:bh)(k:cr):Prop where
 bC:∃d,b.find k.move.bC=some d/\k.move.aT<=d.dp/\d.dp+d.dq<bJ
 aU:∃c,b.find k.move.aU=some c/\k.move.aT<=c.cp/\c.cp+c.cq<bJ
 ne:k.move.bC≠k.move.aU
def Oc{id:Nat}(hn:b.named id=none){id':Nat}:(b.fate id' fate).named id=none:=by
 unfold bh.named at *;rw[pM] at *;intro x hx;obtain⟨y,hy,rfl⟩:=dF.1 hx;have:=hn y hy;split<;>exact this
def GR{id:Nat}(hn:b.named id=none):(b.release q n fate).named id=none:=by
 unfold bh.release;split
 ·exact Oc hn
 ·exact hn
def abi(G:qi W)(ht:yf t)(T0:kB t)(tR:mM t=0)(ry:jM t.ao)(hw:∀k∈b.ax,has k.move.ao 2->k.fate<=1->k.fate=1/\MA b k)(hl:hs.length<800000)[i:Lc (cR p) L (b,hs) f]
 (h:∀fC,Ext (fN b) hs (fN (b.oT t).2) fC 8->T W (f ((b.oT t).2,fC)) (K (.i (b.oT t).1))):T W L (rS (ah p) (aM t) K):=by
 have hL:f (b,hs)=L:=i.same;refine qD (p:=p) λhg=>?_;have ck:=CO tR;have hf:0<=t.ao/\t.ao<256:=by have:=ck.ao;omega
 have bad:∀r:Int,r≠0->(b.oT t)=(r,b)->T W L (K (.i r)):=by
  intro r hr e;rw[e] at h;have:=h hs (Ext.refl _ _ _);rw[hL] at this;exact this
 unfold rS
 repeat' first|apply ws;intros|apply wb|refine J3 ?_
 cases hn:b.named t.id with
 |some k=>
  obtain⟨hk,_⟩:=vG hg hn;simp only[dD,dz]
  repeat' first|apply ws|apply wb|refine Ky hf hk.uZ ?_
  have:=bad (qf t k.asked) (qz _ _) (by
   unfold bh.oT
   have e1:∀(pend:Option cr)(x y:Bool)(m:Nat),kM t (some k) pend x y m=qf t k.asked:=by
    intro pend x y m;unfold kM;rw[af (by simpa using tR),af (by simpa using ry)]
   rw[hn]
   cases b.named t.pending with
   |none=>dsimp only;rw[e1]
   |some k2=>dsimp only;rw[e1,ai (qz _ _)])
  exact T.dp this
 |none=>
 simp only[eX,gN];apply ws;have Qa:∀(k2:cr),b.named t.pending=some k2->∀(x y:Bool)(m:Nat),kM t none (some k2) x y m=(if oa (some k2) t≠0 then oa (some k2) t else if mA t k2.move then 26 else if has t.ao 4/\x=true then 30 else if has t.ao 4/\y=true then 31 else if 96<=m then 35 else 0):=by
  intro k2 _ x y m;unfold kM;rw[af (by simpa using tR),af (by simpa using ry)];dsimp only;by_cases g1: ¬has k2.move.ao 2
  ·have hv:oa (some k2) t=24:=by unfold oa;dsimp only;rw[ai g1]
   rw[hv,ai g1,ai (by decide)]
  by_cases g2:fP t k2.move
  ·have hv:oa (some k2) t=25:=by unfold oa;dsimp only;rw[af g1,ai g2]
   rw[hv,af g1,ai g2,ai (by decide)]
  by_cases g3:1<k2.fate
  ·have hv:oa (some k2) t=25+k2.fate:=by unfold oa;dsimp only;rw[af g1,af g2,ai g3]
   rw[hv,af g1,af g2,ai g3,ai (by omega)]
  ·have hv:oa (some k2) t=0:=by unfold oa;dsimp only;rw[af g1,af g2,af g3]
   rw[hv,af g1,af g2,af g3,af (show ¬((0:Int)≠0) by decide)]
 refine XG G (λm jW=>?_) (λk2 ux he=>?_)
 ·apply ws;intros;apply kL (by simpa using jW);have:=bad _ jW (by
   unfold bh.oT
   rw[hn]
   cases hp:b.named t.pending with
   |none=>
    dsimp only
    have:kM t none none false false b.ax.length=23:=by unfold kM;rw[af (by simpa using tR),af (by simpa using ry)]
    rw[this];rfl
   |some k2=>
    rw[hp] at jW
    dsimp only
    rw[Qa k2 hp,ai jW,ai jW])
  exact T.dp this
 apply ws;intros;rw[ux] at he;obtain⟨kg,afl⟩:=vG hg ux;have P6:k2∈b.ax:=ni ux;have h2p:has k2.move.ao 2/\k2.fate<=1:=by
  unfold oa at he;dsimp only at he;by_cases g1: ¬has k2.move.ao 2
  ·rw[ai g1] at he;cases he
  rw[af g1] at he;by_cases g2:fP t k2.move
  ·rw[ai g2] at he;cases he
  rw[af g2] at he;by_cases g3:1<k2.fate
  ·rw[ai g3] at he;omega
  exact⟨bp.1 g1,by omega⟩
 obtain⟨XH,⟨⟨d,hd,hda,hds⟩,⟨c,hc,hca,MY⟩,jW⟩⟩:=hw k2 P6 h2p.1 h2p.2;have e0:∀r:Int,r=(if mA t k2.move then 26 else if has t.ao 4/\b.mL k2.move.bC (has k2.move.ao 64)=true then 30 else if has t.ao 4/\b.mL k2.move.aU (has k2.move.ao 128)=true then 31 else if 96<=b.ax.length then 35 else 0)->
  b.oT t=(if r≠0 then(r,b) else(0,(b.release k2.move (dw t k2.move) (dP t)).nj t (nL t k2.move) 0)):=by
  intro r hr;subst hr;unfold bh.oT;rw[ux,hn];dsimp only;rw[Qa k2 ux,he,af (show ¬((0:Int)≠0) by decide)]
 have h48:has t.ao 8↔ ¬has t.ao 4:=(Mf tR ry).2.1;apply eO (by simp);apply ws;refine Rx hf h48 (λhb=>?_) (λhb=>?_)
 ·apply ws;intros;have:=bad 26 (by decide) (by rw[e0 26 (by rw[ai hb])];rfl);exact T.dp this
 have hN:dw t k2.move<bJ:=by unfold dw;split;exact kg.move.aT;exact ht.aT
 have adG:has t.ao 4->dw t k2.move<=k2.move.aT:=λh4=>by
  unfold mA at hb;by_cases hx:k2.move.aT<dw t k2.move
  ·exact aQ (.inl ⟨h4,hx⟩) hb
  ·omega
 have u7:=hg.ay;have oS:=hg.oS;have many:=hg.many;have cl:=hg.clock;have fin:∀(r1 r2 r3 r4:Nat)(fate:Int),fate=dP t->(if 96<=b.ax.length then b.oT t=(35,b) else b.oT t=(0,(b.release k2.move (dw t k2.move) (dP t)).nj t (nL t k2.move) 0))->
  T W (Sep.pt r4 (nm (dw t k2.move))::Sep.pt r3 (aM k2.move)::Sep.pt r2 (bM zK)::Sep.pt r1 (aM t)::L) (rS.j1 K (ah p) r3 r4 r1 fate):=by
  intro r1 r2 r3 r4 fate hfa BF;unfold rS.j1
  repeat' first|apply ws|apply wb|refine Vl ?_
  by_cases g3:96<=b.ax.length
  ·rw[ai g3] at BF;rw[aq (by omega)];apply ws;have:=bad 35 (by decide) BF;exact T.dp this
  rw[af g3] at BF;rw[aw (by omega)];rw[BF,<-hfa] at h;apply ws;have hf3:fate=2\/fate=3\/fate=4:=by rw[hfa];unfold dP;split<;>simp
  have h24:fate=2->has t.ao 4:=λe=>by
   rw[hfa] at e;unfold dP at e;split at e
   ·assumption
   ·cases e
  refine Hs (p:=p) (k:=k2) (d:=d) (c:=c) (by rw[afl];exact ux) XH kg.wq kg.move.aT hN hd hc jW hf3 (λe=>by have:=adG (h24 e);omega) (λe=>by have:=adG (h24 e);omega) hl λAS x1=>?_;have l1:=x1.len;have i1:=i.next (b.release k2.move (dw t k2.move) fate,AS);apply ws;intros;have hrk:(b.release k2.move (dw t k2.move) fate).ax.length=b.ax.length:=by unfold bh.release;rw[hd,hc];show(List.map _ _).length=_;rw[bY];rfl
  have hrs:(b.release k2.move (dw t k2.move) fate).ay=b.ay:=by unfold bh.release;rw[hd,hc];rfl
  have hrc:(b.release k2.move (dw t k2.move) fate).clock=b.clock:=by unfold bh.release;rw[hd,hc];rfl
  have hkg:KG (tz (b.release k2.move (dw t k2.move) fate) t (nL t k2.move) 0):=by
   have kt:=kg.PC;have aip:=T0;refine⟨ht,⟨ht.id,kg.move.bC,kg.move.aU,hN,ht.pending,ht.cA,kg.move.bF,kg.move.code,ht.ao,?_,?_⟩,T0,⟨T0.1,kt.2.1,kt.2.2.1,T0.2.2.2⟩,hf,hf,by show(0:Int)<=0/\(0:Int)<=4;decide,ck.cA,?_⟩
   ·show u2 (bh.ay _+1);rw[hrs];unfold u2;omega
   ·show u2 (bh.clock _);rw[hrc];unfold u2;omega
   ·show 0<=bh.clock _/\bh.clock _<=_;rw[hrc];exact cl
  refine Pj (p:=p) (t:=nL t k2.move) (waits:=false) (fate:=0) (GR hn) (by rw[hrk];omega) hkg rfl (by omega) λgI x2=>?_;apply ws;have:=h gI ((x1.trans x2).mono (by omega));exact T.dp this
 apply ws;intros;apply eO (by decide);apply ws;rw[afH hf.1 hf.2];apply fZ<;>intro g4
 ·apply ws;apply Rw (p:=p) kg.wq hd hc;have c1:(b.mL k2.move.bC (has k2.move.ao 64)=true)↔(8<=d.ao/\ ¬has k2.move.ao 64):=by unfold bh.mL;rw[hd];simp
  have c2:(b.mL k2.move.aU (has k2.move.ao 128)=true)↔(8<=c.ao/\ ¬has k2.move.ao 128):=by unfold bh.mL;rw[hc];simp
  by_cases g5:8<=d.ao/\ ¬has k2.move.ao 64
  ·rw[ai g5];apply ws;apply kL (by decide);have:=bad 30 (by decide) (by rw[e0 30 (by rw[af hb,ai ⟨g4,c1.2 g5⟩])];rfl);exact T.dp this
  rw[af g5];by_cases g6:8<=c.ao/\ ¬has k2.move.ao 128
  ·rw[ai g6];apply ws;apply kL (by decide);have:=bad 31 (by decide) (by rw[e0 31 (by rw[af hb,af (λhh=>g5 (c1.1 hh.2)),ai ⟨g4,c2.2 g6⟩])];rfl);exact T.dp this
  rw[af g6];apply ws;apply eO (by decide);refine fin _ _ _ _ _ (by unfold dP;rw[ai g4]) ?_;by_cases g7:96<=b.ax.length
  ·rw[ai g7,e0 35 (by rw[af hb,af (λhh=>g5 (c1.1 hh.2)),af (λhh=>g6 (c2.1 hh.2)),ai g7])];rfl
  ·rw[af g7,e0 0 (by rw[af hb,af (λhh=>g5 (c1.1 hh.2)),af (λhh=>g6 (c2.1 hh.2)),af g7])];rfl
 ·refine fin _ _ _ _ _ (by unfold dP;rw[af g4]) ?_;by_cases g7:96<=b.ax.length
  ·rw[ai g7,e0 35 (by rw[af hb,af (λhh=>g4 hh.1),af (λhh=>g4 hh.1),ai g7])];rfl
  ·rw[af g7,e0 0 (by rw[af hb,af (λhh=>g4 hh.1),af (λhh=>g4 hh.1),af g7])];rfl
def adH(G:qi W)(ht:yf t)(T0:kB t)(hw:∀k∈b.ax,has k.move.ao 2->k.fate<=1->k.fate=1/\MA b k)(hl:hs.length<800000)[i:Lc (cR p) L (b,hs) f]
 (h:∀fC,Ext (fN b) hs (fN (b.lO t).2) fC 8->T W (f ((b.lO t).2,fC)) (K (.i (b.lO t).1))):T W L (ov (ah p) (aM t) K):=by
 unfold ov
 repeat' first|apply ws;intros|apply wb|refine Kx G ht ?_
 unfold ov.j1;apply db<;>intro g1
 ·have g1:mM t≠0:=by simpa using g1
  have e:b.lO t=b.move t:=by unfold bh.lO;rw[af (λhh=>g1 hh.1)]
  rw[e] at h;apply ws;refine Zm G ht T0 hl λfC hx=>?_;apply ws;have:=h fC (hx.mono (by omega));exact T.dp this
 have g1:mM t=0:=by simpa using g1
 have ck:=CO g1
 repeat' first|apply ws|apply wb|refine J9 (show 0<=t.ao/\t.ao<256 by have:=ck.ao;omega) ?_
 by_cases g2:jM t.ao
 ·have e:b.lO t=b.oT t:=by unfold bh.lO;rw[ai ⟨g1,g2⟩]
  rw[e] at h;rw[aw g2];apply ws;refine abi G ht T0 g1 g2 hw hl λfC hx=>?_;apply ws;have:=h fC hx;exact T.dp this
 ·have e:b.lO t=b.move t:=by unfold bh.lO;rw[af (λhh=>g2 hh.2)]
  rw[e] at h;rw[aq g2];apply ws;refine Zm G ht T0 hl λfC hx=>?_;apply ws;have:=h fC (hx.mono (by omega));exact T.dp this
end
section
variable {W:World} {L R:LH} {K:VK} {X:WK} {p:Nat} {b:bh} {hs:List C} {f:bh×List C->LH}
def zI:Item:=⟨0,0,0⟩
instance{x1 x2 x3 x4:Value}:Wr [x1,x2,x3,x4] 0 [.i 0,.i 0,.u 0,.u 0] (gO zI):=⟨rfl,aF _,qw zI⟩
instance{x:Item}:Sub (gO x) 2 2 (nm x.id):=⟨rfl,λj v h=>by
 match j with
 |0=>exact h
 |1=>exact h
 |j+2=>simp[nm] at h⟩
def Tv{r o:Nat}{cs:LV}{bb:OA}{c:Nat}{h:List Item}(hv:cs[o]?=some (.l bb h.length c))(hl:h.length<10000)
 (hx:∀x,h[0]?=some x->T W (Sep.pt r cs::own bb h.length c 4 (h.flatMap gO)::R) (K (.tuple ⟨[.agg ⟨gO x⟩,.b true]⟩)))
 (h0:h=[]->T W (Sep.pt r cs::own bb h.length c 4 (h.flatMap gO)::R) (K (.tuple ⟨[.agg ⟨gO zI⟩,.b false]⟩))):
 T W (Sep.pt r cs::own bb h.length c 4 (h.flatMap gO)::R) (nJ (some ⟨r,o,none⟩) K):=by
 unfold nJ tO;refine tN λr1=>?_;apply yD;apply DF;apply nF hv;apply tZ;apply mg;apply db<;>intro g
 ·have g:h=[]:=by
   have:((h.length:Nat):Int)=0:=by simpa using g
   exact List.length_eq_zero_iff.1 (by omega)
  apply ws;have:=h0 g;exact T.dp this
 ·have g:0<h.length:=by
   have: ¬((h.length:Nat):Int)=0:=by simpa using g
   omega
  apply DF;apply nF hv;apply tZ;have gx:=aj g;refine dT ⟨by omega,by omega⟩ λrb hb=>?_;subst hb;apply ij (o:=0) iZ gx;apply ws;have:=hx _ gx;exact T.dp this
def RN{q:Core}{f:Core->LH}[i:Lc (gW p) L q f](hl:q.ends.length<10000)
 (h1:∀x,x∈q.ends->(∀y∈q.ends,¬bf y x)->T W L (K (.tuple ⟨[.agg ⟨gO x⟩,.b true]⟩)))(h0:q.ends=[]->T W L (K (.tuple ⟨[.agg ⟨gO zI⟩,.b false]⟩))):T W L (nJ (some ⟨p,6,none⟩) K):=by
 have hL:f q=L:=i.same;rw[<-hL] at h0 h1;refine qE (p:=p) λb1 c1 b2 c2 b3 c3 hp R g1 g2 hc=>?_;apply T.Nt;refine Tv rfl (by rw[g2.length_eq];exact hl) (λx hx=>?_) (λhn=>?_)
 ·apply T.E5;exact hc [] q b1 c1 b2 c2 b3 c3 hp _ g1 g2 (h1 x (g2.mem_iff.1 (cn hx)) λy hy=>g1.first hx y (g2.mem_iff.2 hy))
 ·apply T.E5;exact hc [] q b1 c1 b2 c2 b3 c3 hp _ g1 g2 (h0 (by subst hn;exact(List.nil_perm.1 g2)))
def tick(b:bh)(now:Int):bh:={b with clock:=if b.clock<now/\now<=1099511627776 then now else b.clock}
def WB[i:Lc (cR p) L (b,hs) f]{now:Int}(hl:hs.length<900000)
 (h:∀fC,Ext (fN b) hs (fN (Go.Up.tick b now)) fC 1->T W (f (Go.Up.tick b now,fC)) (K (.tuple ⟨[]⟩))):T W L (eg (ah p) now K):=by
 refine MI (p:=p) λla lk ti tn vs bx R hg hc pV=>?_;have PZ:vs.reverse.length<900000:=by rw[ju,hc.len];omega
 have hck:=hg.clock;have same: ¬(b.clock<now/\now<=1099511627776)->Go.Up.tick b now=b:=λhn=>by unfold Go.Up.tick;rw[af hn]
 unfold eg;apply ws;intros;rename_i r1;apply fZ<;>intro g
 ·have g:now<=b.clock:=g;have e:=same (by omega);rw[e] at h;have fin:=pV [] b hs vs bx _ hg hc (h hs (Ext.refl _ _ _));unfold eg.j1;apply ws;exact T.dp fin
 have g: ¬now<=b.clock:=g;unfold eg.j1;apply fZ<;>intro g2
 ·have g2:now>1099511627776:=g2;have e:=same (by omega);rw[e] at h;have fin:=pV [] b hs vs bx _ hg hc (h hs (Ext.refl _ _ _));exact T.dp fin
 have g2: ¬now>1099511627776:=g2;have e:Go.Up.tick b now={b with clock:=now}:=by unfold Go.Up.tick;rw[ai ⟨by omega,by omega⟩]
 rw[e] at h;apply ws;intros;rename_i r2;apply Nc (p:=p);apply ws;refine vX (p:=p) (by show vs.reverse.length<_;omega) rfl rfl ?_;apply ws;refine eP (eP ?_);have im:fk {b with clock:=now}:={hg with clock:=by show 0<=now/\now<=_;omega};have fin:=λoO c1=>pV [] {b with clock:=now} _ (YT r2 r1::vs) oO _ im c1 (h _ ⟨[fN b],rfl,rfl,by simp⟩);simp only[gG,xW] at fin;refine fin _ ⟨?_,hc.mono λx hx=>by simp[hx]⟩;exact DC.time (c:=fN {b with clock:=now}) (by repeat (first|exact dM.head _|apply dM.tail)) (by repeat (first|exact dM.head _|apply dM.tail))
def Tk[i:Lc (cR p) L (b,hs) f]
 (h1:∀k,k∈b.ax->nr b.clock k->T W L (K (.tuple ⟨[.agg ⟨bM k⟩,.b true]⟩)))
 (h0:(∀k∈b.ax,¬nr b.clock k)->T W L (K (.tuple ⟨[.agg ⟨bM zK⟩,.b false]⟩))):T W L (fq (ah p) K):=by
 have hL:f (b,hs)=L:=i.same;refine MI (p:=p) λla lk ti tn vs bx R hg hc pV=>?_;have many:=hg.many;unfold fq;apply ws;intros;refine RN (p:=p) (by have:=BP b;show(b.ax.filterMap gj).length<_;omega) (λx hx zD=>?_) (λhn=>?_)
 ·obtain⟨k,hk,hkd⟩:=List.mem_filterMap.1 hx;obtain⟨e1,e2,e3,e4,e5⟩:=rz hkd;have hn:b.named x.id=some k:=by
   obtain⟨n,hn,rfl⟩:=List.getElem_of_mem hk;have:=zh (key:=λx:cr=>x.move.id) hg.names hn;rw[e2];exact(wz (key:=λx:cr=>x.move.id) this).2.2
  apply ws;intros;unfold fq.j1;apply fZ<;>intro g
  ·have g:x.due<=b.clock:=g;have fin:=pV [] b hs vs bx _ hg hc (by rw[hL];exact h1 k hk ⟨e4,e5,by omega⟩);apply ws;apply J4 (b:=b) (q:=gG la lk ti tn vs (fN b)) many;rw[hn];simp only[dD,dz];apply ws;exact T.dp fin
  ·have g: ¬x.due<=b.clock:=g;have fin:=pV [] b hs vs bx _ hg hc (by
    rw[hL]
    refine h0 λk' AU ho=>?_
    have ZE:gj k'=some ⟨k'.move.jO+k'.move.cA,k'.move.ay,k'.move.id⟩:=by unfold gj;rw[ai ⟨ho.1,ho.2.1⟩]
    have:=zD _ (List.mem_filterMap.2 ⟨k',AU,ZE⟩)
    have h3:=ho.2.2
    unfold bf at this
    dsimp only at this
    omega)
   apply ws;exact T.dp fin
 ·have fin:=pV [] b hs vs bx _ hg hc (by
   rw[hL]
   refine h0 λk' AU ho=>?_
   have ZE:gj k'=some ⟨k'.move.jO+k'.move.cA,k'.move.ay,k'.move.id⟩:=by unfold gj;rw[ai ⟨ho.1,ho.2.1⟩]
   have:_∈b.ax.filterMap gj:=List.mem_filterMap.2 ⟨k',AU,ZE⟩
   rw[show b.ax.filterMap gj=[] from hn] at this
   cases this)
  apply ws;intros;unfold fq.j1;apply ws;exact T.dp fin
end
def Ii{b:bh}{m:aA}(hs:pJ b m)(hg:Md.bS m){id:Nat}(h:id∈m.dj.map (·.id)):∃a,a∈m.dj/\a.id=id/\b.find id=some (Md.full m.ax a):=by
 obtain⟨a,ha,rfl⟩:=dF.1 h;refine⟨a,ha,rfl,?_⟩;rw[hs.find];unfold aA.find;rw[rh hg.ids ha];rfl
def Gs{b:bh}{m:aA}(hs:pJ b m)(hg:Md.bS m){k:cr}(hk:k∈m.ax)(h1:k.fate=1):MA b k:=by
 obtain⟨jW,hd,hc⟩:=hg.yF k hk;obtain⟨d,Jr,Kc,fd⟩:=Ii hs hg hd;obtain⟨c,Sm,Js,fc⟩:=Ii hs hg hc;have zd:=hg.zero d Jr;have zc:=hg.zero c Sm;refine⟨⟨_,fd,?_,?_⟩,⟨_,fc,?_,?_⟩,jW⟩
 ·have:=Vj (AX d.id) m.ax k hk;have e:AX d.id k=k.move.aT:=ai ⟨h1,Kc.symm⟩;show k.move.aT<=d.dp+S (AX d.id) m.ax;omega
 ·show d.dp+S (AX d.id) m.ax+(d.dq+S (CE d.id) m.ax)<bJ;have:=hg.yZ d Jr;omega
 ·have:=Vj (AY c.id) m.ax k hk;have e:AY c.id k=k.move.aT:=ai ⟨h1,Js.symm⟩;show k.move.aT<=c.cp+S (AY c.id) m.ax;omega
 ·show c.cp+S (AY c.id) m.ax+(c.cq+S (CF c.id) m.ax)<bJ;have:=hg.vA c Sm;omega
def Yy{b:bh}{m:aA}(hs:pJ b m)(hg:Md.bS m):∀k∈b.ax,has k.move.ao 2->k.fate<=1->k.fate=1/\MA b k:=λk hk h2 hf=>by
 rw[hs.ax] at hk;have:=hg.wH k hk;have h1:k.fate=1:=by have:=this.2.2.1 h2;omega
 exact⟨h1,Gs hs hg hk h1⟩
def F2(c:Int)(k:cr):cr:=if nr c k then{k with fate:=4} else k
def Da(c:Int)(l:List cr):Nat:=(l.filter λk=>nr c k).length
def HH{c:Int}:∀{l:List cr} {i:Nat}(hi:i<l.length),nr c l[i]->Da c (l.set i {l[i] with fate:=4})+1=Da c l
 |x::l,0,hi,h=>by
  have h2: ¬nr c {x with fate:=4}:=λhh=>aQ hh.1 (show ¬(4:Int)=1 by decide);have h:nr c x:=h;show((({x with fate:=4}:cr)::l).filter _).length+1=((x::l).filter _).length;rw[lG (by simpa using h2),lF (by simpa using h),aW]
 |x::l,i+1,hi,h=>by
  have:=HH (c:=c) (l:=l) (i:=i) (by simpa using hi) h;show((x::l.set i _).filter _).length+1=((x::l).filter _).length;by_cases hx:nr c x
  ·rw[lF (by simpa using hx),lF (by simpa using hx),aW,aW];exact congrArg (·+1) this
  ·rw[lG (by simpa using hx),lG (by simpa using hx)];exact this
structure YC(m m':aA):Prop where
 dj:m'.dj=m.dj
 ay:m'.ay=m.ay
 clock:m'.clock=m.clock
 ax:m'.ax.map (F2 m.clock)=m.ax.map (F2 m.clock)
def YC.refl(m:aA):YC m m:=⟨rfl,rfl,rfl,rfl⟩
def HI{b:bh}{m0 m:aA}(hs:pJ b m)(hg:Md.bS m)(hx:YC m0 m){k:cr}(hk:k∈b.ax)(ho:nr b.clock k):
 b.named k.move.id=some k/\MA b k/\∃m',pJ (b.release k.move 0 4) m'/\Md.bS m'/\YC m0 m'/\Da m0.clock m'.ax+1=Da m0.clock m.ax:=by
 rw[hs.ax] at hk;rw[hs.clock] at ho;obtain⟨i,hi,rfl⟩:=List.getElem_of_mem hk;have P4:b.named m.ax[i].move.id=some m.ax[i]:=by
  have:=zh (key:=λx:cr=>x.move.id) hg.names hi;rw[hs.Jd];exact(wz (key:=λx:cr=>x.move.id) this).2.2
 refine⟨P4,Gs hs hg hk ho.1,m.eS i 4,hs.release hg hi ho.1 (.inr rfl) 0,hg.eS hi ho.1 (.inr (.inr rfl)),⟨hx.dj,hx.ay,hx.clock,?_⟩,?_⟩
 ·rw[<-hx.ax];rw[hx.clock] at ho;exact(LY hi m0.clock).resolve_right (λhh=>hh ho)
 ·rw[hx.clock] at ho;rw[qb hi];exact HH hi ho
def HJ{b:bh}{m0 m:aA}(hs:pJ b m)(hx:YC m0 m)(h:∀k∈b.ax,¬nr b.clock k):m={m0 with ax:=m0.ax.map (F2 m0.clock)}:=by
 have h2:m.ax.map (F2 m0.clock)=m.ax:=LZ (m:=m) (clock:=m0.clock) λk hk=>by
  have:=h k (by rw[hs.ax];exact hk);rwa[hs.clock,hx.clock] at this
 rw[<-hx.ax,h2];obtain⟨x1,x2,x3,x4⟩:=hx;cases m;cases m0
 simp only at x1 x2 x3;subst x1;subst x2;subst x3;rfl
def uI(m:aA)(now:Int):aA:={m with clock:=if m.clock<now/\now<=1099511627776 then now else m.clock}
def IH(m:aA)(now:Int):m.time now={uI m now with ax:=(uI m now).ax.map (F2 (uI m now).clock)}:=rfl
def R9{b:bh}{m:aA}(hs:pJ b m)(now:Int):pJ (Go.Up.tick b now) (uI m now):=⟨hs.aB,hs.ax,by unfold Go.Up.tick uI;simp only[hs.clock],hs.ay⟩
def DA{m:aA}(hg:Md.bS m)(now:Int):Md.bS (uI m now):=⟨hg.zero,hg.ids,hg.oS,hg.names,hg.wH,hg.yF,hg.some_,hg.yZ,hg.vA,hg.vB⟩
def Ri(n:Int):de .i64 .and n 1=n%2:=by
 unfold de;have e1:(BitVec.ofInt aa.bits n&&&BitVec.ofInt aa.bits 1).toNat=(BitVec.ofInt 64 n).toNat%2:=by
  rw[BitVec.toNat_and];show(BitVec.ofInt 64 n).toNat&&&1=_;exact Nat.and_one_is_mod _
 dsimp only;rw[e1];have e2:(((BitVec.ofInt 64 n).toNat%2:Nat):Int)=n%2:=by
  rw[BitVec.toNat_ofInt];omega
 rw[e2];exact aX (by omega)
def Rh{n:Int}(h0:0<=n)(h1:n<=7):de .i64 .andNot n 1=n/2* 2:=by
 have:n=0\/n=1\/n=2\/n=3\/n=4\/n=5\/n=6\/n=7:=by omega
 rcases this with rfl|rfl|rfl|rfl|rfl|rfl|rfl|rfl<;>rfl
section
variable {α:Type} {W:World} {R L:LH} {K:VK} {X:WK} {g:α->LV} {e:Nat} {s:OA} {l:List α}
def np(W:World)(R:LH)(g:α->LV)(e:Nat)(s:OA)(l:List α):Prop:=
 ∀w,St W w R->∀i x,l[i]?=some x->∃a,s=some a/\yg w (a.add (i* e)) (g x)
def iq{i:Int}{n:Nat}{K:Addr->WK}[hh:Has R L](hr:np W R g e s l)(hi:0<=i/\i<l.length)(hn:n=l.length)(h:∀a,s=some a->T W L (K (a.add (i.toNat* e)))):T W L (iY s n i e K):=λw hs=>by
 obtain⟨a,ha,-⟩:=hr w (hh.sub hs) i.toNat _ (aj (by omega));exact⟨a,ha,⟨hi.1,by omega⟩,h a ha w hs⟩
def kd{i:Nat}{x:α}{a:Addr}{K:LV->WK}[hh:Has R L](hr:np W R g e s l)(hs:s=some a)(hx:l[i]?=some x)(hg:(g x).length=e)(h:T W L (K (g x))):T W L (aJ (a.add (i* e)) e K):=λw hw=>by
 obtain⟨a',ha,hh⟩:=hr w (hh.sub hw) i x hx;rw[hs] at ha;cases ha
 exact⟨g x,hg,hh,h w hw⟩
def np.drop{c i:Nat}(hr:np W R g e s l)(hi:i<=l.length)(hc:l.length<=c):np W R g e (ym s c i e) (l.drop i):=λw hw j x hx=>by
 rw[lC] at hx;obtain⟨a,ha,hh⟩:=hr w hw (i+j) x hx;have cj:=(av.1 hx).1;unfold ym;rw[af (by omega),ha];refine⟨a.add (i* e),rfl,?_⟩;rw[add_add,<-mn];exact hh
def np.take{i:Nat}(hr:np W R g e s l):np W R g e s (l.take i):=λw hw j x hx=>by
 apply hr w hw j x;rw[sj] at hx;split at hx
 ·exact hx
 ·cases hx
def A9{b:OA}{n c i j e:Nat}{K:OA->Nat->Nat->WK}(hi:i<=j)(hj:j<=c)(h:T W L (K (ym b c i e) (j-i) (c-i))):T W L (rJ b n c e (some (i:Int)) (some (j:Int)) K):=by
 unfold rJ;refine dJ ⟨by omega,by omega⟩ ?_;dsimp only;refine dJ ⟨by omega,by omega⟩ ?_;rw[ak,ak];exact h
end
def I1(i:Int):LV:=[.i i]
def AO(i:Int):(I1 i).length=1:=rfl
section
variable {W:World} {L:LH} {K:VK} {X:WK} {f:HP->LH}
def JA{r N C o n i:Nat}{c:Nat}{v:Int}{l:List Int}[j:vI (some ⟨r,0,none⟩) N C L 1 (l.flatMap I1) f](ho:o+n<=l.length)(hi:i<n)(hn:n<1000000)
 (h:T W (f (own (some ⟨r,0,none⟩) N C 1 ((l.take o++ga n (some (i,v))++l.drop (o+n)).flatMap I1))) (K (.tuple ⟨[]⟩))):T W L (jF (some ⟨r,o,none⟩) n c i v K):=by
 unfold jF;intro w hs;obtain⟨k,hk,e1⟩:=j.at_;have zD:min o l.length=o:=nA (by omega)
 let st:Nat->List Int:=λm=>l.take o++bj m 1++l.drop (o+m)
 have u7:∀m,m<=n->(st m).length=l.length:=λm hm=>by simp only[st,au,aC,zD,iF,aR];omega
 refine⟨λvs w=>∃m:Nat,m<=n/\vs=[.i (n:Int),.i (m:Int)]/\St W w (f (own (some ⟨r,0,none⟩) N C 1 ((st m).flatMap I1))),mq 1 n,⟨0,aE _,rfl,?_⟩,?_⟩
 ·have:st 0=l:=by simp[st]
  rw[this,e1,nI hk];exact hs
 rintro n3 n4 w2 ⟨m,hm,e,gI⟩;cases e
 rw[e1] at gI;have ux:(L.set k (own (some ⟨r,0,none⟩) N C 1 ((st m).flatMap I1)))[k]?=some (own (some ⟨r,0,none⟩) N C 1 ((st m).flatMap I1)):=kj hk;have one:∀v∈I1 1,v.oneCell'=true:=λv hv=>by simp[I1] at hv;subst hv;rfl
 by_cases cj:m<n
 ·rw[aw (by omega)];rw[kZ];refine⟨_,rfl,⟨by omega,by omega⟩,?_⟩;rw[gY,ak,mm];refine Cd gI ux (by rw[BM AO,u7 m hm];omega) rfl λw3 vY=>?_;have e5:=m9 m;rw[e5];refine⟨⟨m+1,cj,rfl,?_⟩,dn (by omega)⟩;rw[e1];rw[jC] at vY;have e6:((st m).flatMap I1).set (o+m) (Value.int aa 1)=(st (m+1)).flatMap I1:=by
   have:=CD (g:=I1) (l:=st m) (o:=o+m) (y:=1) (j:=0) (v:=.i 1) AO (aj (by rw[u7 m hm];omega)) rfl (by decide);have e7:(st m).set (o+m) 1=st (m+1):=by
    have hd:l.drop (o+m)=l[o+m]'(by omega)::l.drop (o+m+1):=gZ (by omega);have hAB:(l.take o++bj m (1:Int)).length=o+m:=by rw[au,aC,iF,zD]
    simp only[st];rw[hd,List.set_append_right _ _ (by omega),hAB,jS,List.set_cons_zero,List.replicate_succ'];simp[Nat.add_assoc]
   rw[<-e7,<-this,mm,gK]
  rw[e6] at vY;exact vY
 ·have hmn:m=n:=by omega
  subst hmn;rw[aq (by omega),dX];refine⟨_,rfl,⟨by omega,by omega⟩,?_⟩;rw[gY,ak,mm];refine Cd gI ux (by rw[BM AO,u7 m hm];omega) rfl λw3 vY=>?_;apply h w3;rw[e1];rw[jC] at vY;have e6:((st m).flatMap I1).set (o+i) (Value.int aa v)=(l.take o++ga m (some (i,v))++l.drop (o+m)).flatMap I1:=by
   have:=CD (g:=I1) (l:=st m) (o:=o+i) (y:=v) (j:=0) (v:=.i v) AO (aj (by rw[u7 m hm];omega)) rfl (by decide);have e7:(st m).set (o+i) v=l.take o++ga m (some (i,v))++l.drop (o+m):=by
    simp only[st,ga];rw[aH,List.set_append_right _ _ (by rw[aC,zD];omega),List.set_append_left _ _ (by rw[aC,zD,iF];omega),<-aH]
    congr 3
    rw[aC,zD];omega
   rw[<-e7,<-this,mm,gK]
  rw[e6] at vY;exact vY
end
section
variable {α σ:Type}
def xN{linked:α->Bool}:∀{l:List α} {i:Nat} {x:α},(∀j y,j<i->l[j]?=some y->linked y=true)->l[i]?=some x->linked x=false->bI linked l=(i+1,true)
 |[],i,x,_,hx,_=>by simp at hx
 |y::l,0,x,_,hx,hn=>by simp at hx;subst hx;unfold bI;rw[af (by simp[hn])]
 |y::l,i+1,x,h,hx,hn=>by
  unfold bI;rw[ai (h 0 y (by omega) rfl),xN (l:=l) (i:=i) (λj z hj hz=>h (j+1) z (by omega) (by simpa using hz)) (by simpa using hx) hn]
def vF{linked:α->Bool}:∀{l:List α},(∀x∈l,linked x=true)->bI linked l=(l.length,false)
 |[],_=>rfl
 |y::l,h=>by unfold bI;rw[ai (h y (by simp)),vF λx hx=>h x (by simp[hx])];rfl
def sO{linked:α->Bool}:∀(l:List α),(bI linked l).1<=l.length
 |[]=>aF _
 |y::l=>by unfold bI;split<;>simp;exact sO l
def Du{linked:α->Bool}(x:α)(l:List α):0<(bI linked (x::l)).1:=by unfold bI;split<;>simp
def xM{linked:α->Bool}:∀{l:List α},(bI linked l).2=false->(bI linked l).1=l.length
 |[],_=>rfl
 |y::l,h=>by
  unfold bI at h⊢;split at h
  ·rename_i hy;rw[ai hy];show _+1=_;rw[xM h];rfl
  ·cases h
def sJ{f:σ->α->Int×σ}:∀(l m:List α)(s s':σ)(i:Nat),gL f s l i=(none,s')->gL f s (l++m) i=gL f s' m (i+l.length)
 |[],m,s,s',i,h=>by cases h;rfl
 |x::l,m,s,s',i,h=>by
  unfold gL at h;split at h
  ·cases h
  ·rename_i h0;rw[lH];show gL f s (x::(l++m)) i=_;rw[gL,af h0,sJ l m _ _ _ h,aW,Nat.add_right_comm,Nat.add_assoc]
def iA(n:Nat)(e:Option (Nat×Int)):(ga n e).length=n:=by cases e<;>simp[ga]
end
section
variable {W:World} {L R:LH} {K:VK} {X:WK} {p:Nat} {b:bh} {hs:List C} {f:bh×List C->LH}
def WE[i:Lc (cR p) L (b,hs) f]{a:bN}(oS:32<=b.aB.length)(h:T W L (K (.i 6))):T W L (mO (ah p) (aO a) K):=by
 have hL:f (b,hs)=L:=i.same;refine MI (p:=p) λla lk ti tn vs bx R hg hc pV=>?_;have fin:=pV [] b hs vs bx _ hg hc (by rw[hL];exact h);unfold mO;apply ws;intros;apply OO (l:=la);apply ws;refine kL (by show decide (((b.aB.length:Nat):Int)>=32)=true;simp;omega) ?_;exact T.dp fin
def Pm[i:Lc (cR p) L (b,hs) f]{b0:bh}{jo:List C}{n:Nat}(hg:fk b0)(hx:Ext (fN b0) jo (fN b) hs n)(hl:hs.length<1000000)(h:T W (f (b0,jo)) (K (.tuple ⟨[]⟩))):T W L (fI (ah p) (jo.length:Int) K):=λw hw=>by
 obtain⟨k,hk,e1⟩:=i.at_;have h1:=hw.focus hk;obtain⟨-,h2⟩:=h1.and;refine(show T W (cP p (fN b,hs)::L.eraseIdx k) _ from ?_) w h2;unfold fI;apply ws;apply ab8 (p:=p) hl;rw[hx.back];apply ws;intro w2 hw2;apply h w2;rw[e1];exact St.rH (A:=cR p (b,hs)) (St.and_intro hg hw2) hk
def Oo{a:bN}(h:tH a=0):0<=a.ao/\a.ao<=7/\a.dp=0/\a.dq=0/\a.cp=0/\a.cq=0/\a.ay=0/\(1<=a.bF/\a.bF<=4294967295)/\1<=a.code/\a.code<=65535:=by
 unfold tH at h
 repeat' (first|(split at h;first|(exact aQ h (by decide))|skip)|skip)
 omega
def Yi(G:qi W){a:bN}(ha:yi a)[i:Lc (cR p) L (b,hs) f](hl:hs.length<900000)
 (h:∀fC,Ext (fN b) hs (fN (b.make a).2) fC 8->T W (f ((b.make a).2,fC)) (K (.i (b.make a).1))):T W L (ma (ah p) (aO a) K):=by
 have hL:f (b,hs)=L:=i.same;refine qD (p:=p) λhg=>?_;unfold ma
 repeat' first|apply ws;intros|apply wb|refine Va G ha ?_
 have stay:∀r:Int,b.make a=(r,b)->T W L (K (.int .i64 r)):=λr e=>by
  rw[e] at h;have:=h hs (Ext.refl _ _ _);rw[hL] at this;exact this
 apply db<;>intro g1
 ·have g1:tH a≠0:=by simpa using g1
  have:=stay (tH a) (by unfold bh.make;rw[ai g1]);exact T.dp this
 have g1:tH a=0:=by simpa using g1
 have ck:=Oo g1
 repeat' first|apply ws;intros|apply wb|refine wQ (p:=p) ?_
 cases hf:b.find a.id with
 |some x=>
  simp only[dD,dz];obtain⟨gx,hxi⟩:=wF hg hf
  repeat' first|apply ws|apply wb|refine Vb ⟨ck.1,by omega⟩ ⟨gx.ao.1,by have:=gx.ao.2;omega⟩ ?_
  have:=stay (qG a x) (by unfold bh.make;rw[af (by omega),hf]);exact T.dp this
 |none=>
  simp only[eX,gN];apply ws;rw[Rh ck.1 ck.2.1];by_cases oS:b.aB.length<32
  ·have hga:AG {({a with ao:=a.ao/2* 2}:bN) with ay:=b.ay+1}:=by
    have u7:=hg.ay;have many:=hg.many;refine⟨⟨ha.id,ha.dp,ha.dq,ha.cp,ha.cq,?_,?_,?_,?_⟩,⟨⟨by show 0<=a.bF;omega,by show a.bF<=_;omega⟩,⟨by show 0<=a.code;omega,by show a.code<=_;omega⟩,by show 0<=a.ao/2* 2;omega,by show a.ao/2* 2<=_;omega⟩,⟨by show 0<=a.ao/2* 2;omega,by show a.ao/2* 2<_;omega⟩,by show 0<=b.ay+1;omega,by show b.ay+1<_;omega⟩
    ·show u2 a.bF;unfold u2;omega
    ·show u2 a.code;unfold u2;omega
    ·show u2 (a.ao/2* 2);unfold u2;omega
    ·show u2 (b.ay+1);unfold u2;omega
   refine WD (p:=p) (a:={a with ao:=a.ao/2* 2}) hf oS hga hl λfC hx=>?_;apply ws;have e:b.make a=(0,b.more {a with ao:=a.ao/2* 2}):=by
    unfold bh.make bh.more;rw[af (by omega),hf];dsimp only;rw[af (by omega)]
   rw[e] at h;have:=h fC (hx.mono (by omega));exact T.dp this
  ·apply WE (p:=p) (a:={a with ao:=a.ao/2* 2}) (by omega);apply ws;have:=stay 35 (by unfold bh.make;rw[af (by omega),hf];dsimp only;rw[ai (by omega)]);exact T.dp this
end
def Is(b:bh):Prop:=∃m,pJ b m/\Md.bS m
def Is.make{b:bh}(h:Is b)(a:bN):Is (b.make a).2:=by obtain⟨m,hs,hg⟩:=h;exact⟨_,(hs.make hg).2⟩
def Is.lO{b:bh}(h:Is b)(t:cx):Is (b.lO t).2:=by obtain⟨m,hs,hg⟩:=h;exact⟨_,(hs.lO hg).2⟩
def HT(n:Int):(de .i64 .and n 1!=0)=decide (n%2=1):=by
 rw[Ri,bZ];simp only[eY,ne_eq,decide_eq_true_eq];omega
def Cu(t:cx):(aM t).length=16:=rfl
def yQ(a:bN):Bool:=decide (a.ao%2=1)
def sY(t:cx):Bool:=decide (t.ao%2=1)
section
variable {α σ:Type}
def Ci{f:σ->α->Int×σ}{lk:α->Bool}{n:Nat}{s:σ}{l:List α}(hl:l≠[]):
 eW f lk (n+1) s l=if(bI lk l).2=false then(ga (bI lk l).1 (some ((bI lk l).1-1,2)),s)
  else match gL f s (l.take (bI lk l).1) 0 with
  |(none,s')=>(ga (bI lk l).1 none++(eW f lk n s' (l.drop (bI lk l).1)).1,(eW f lk n s' (l.drop (bI lk l).1)).2)
  |(some e,_)=>(ga (bI lk l).1 (some e)++(eW f lk n s (l.drop (bI lk l).1)).1,(eW f lk n s (l.drop (bI lk l).1)).2):=by
 cases l with
 |nil=>exact aQ rfl hl
 |cons x l=>
  rw[eW]<;>congr 1
def wj{f:σ->α->Int×σ}{lk:α->Bool}(n:Nat)(s:σ):eW f lk n s []=([],s):=by cases n<;>rfl
end
section
variable {W:World} {L R:LH} {K:VK} {X:WK} {p:Nat} {b:bh} {hs:List C}
def X0{s:OA}{c nn:Nat}{l:List bN}[hh:Has R L](hr:np W R aO 14 s l)(MO:nn=l.length)(hl:l.length<1000000)
 (h:T W L (K (.tuple ⟨[.i ((bI yQ l).1:Int),.b (bI yQ l).2]⟩))):T W L (mC s nn c (.func (.func N.gU) ⟨[]⟩ ⟨[]⟩) K):=by
 subst MO;unfold mC;intro w hs;refine⟨λvs w=>∃i:Nat,i<=l.length/\(∀j y,j<i->l[j]?=some y->yQ y=true)/\vs=[.i 0,.b false,.l s l.length c,.i (l.length:Int),.i (i:Int)]/\St W w L,
  mq 4 l.length,⟨0,aE _,λj y hj=>by omega,rfl,hs⟩,?_⟩
 rintro n1 b1 jJ iX jV n2 n3 w2 ⟨i,hi,fx,e,gI⟩;cases e
 refine T.at ?_ gI;have e5:=m9 i;apply fZ<;>intro g1
 ·have cj:i<l.length:=by omega
  have gx:=aj cj;generalize l[i]=x at gx;refine iq hr ⟨by omega,by omega⟩ rfl λa ha=>?_;rw[ak];apply kd hr ha gx (jR x);apply ws;intros;show T W _ (gU (aO x) _);unfold gU;apply ws;intros;rw[HT];rw[e5];apply db<;>intro g2
  ·have g2:yQ x=false:=by simpa [yQ] using g2
   rw[xN fx gx g2] at h;exact T.dp h
  ·have g2:yQ x=true:=by simpa [yQ] using g2
   refine T.drop (T.drop ?_);refine λw3 h3=>⟨⟨i+1,cj,λj y hj hy=>?_,rfl,h3⟩,dn (by omega)⟩;by_cases LJ:j=i
   ·subst LJ;rw[gx] at hy;cases hy;exact g2
   ·exact fx j y (by omega) hy
 ·have iO:i=l.length:=by omega
  subst iO;rw[vF λx hx=>by obtain⟨j,hj⟩:=qB hx;exact fx j x (av.1 hj).1 hj] at h;exact h
def aaN(G:qi W){s:OA}{c c2 nn:Nat}{l:List bN}{r q o:Nat}{res:List Int}(hr:np W R aO 14 s l)(MO:nn=l.length)(iE:∀x∈l,yi x)(hP:Is b)(hl:hs.length+8* l.length<800000)
 (ho:o+l.length<=res.length)(Ly:0<l.length)
 (h0:∀fC b',gL bh.make b l 0=(none,b')->Is b'->fC.length<=hs.length+8* l.length->T W (cR p (b',fC)::own (ah r) q q 1 (res.flatMap I1)::R) (K (.tuple ⟨[]⟩)))
 (h1:∀e b',gL bh.make b l 0=(some e,b')->e.1<l.length->T W (cR p (b,hs)::own (ah r) q q 1 ((res.take o++ga l.length (some e)++res.drop (o+l.length)).flatMap I1)::R) (K (.tuple ⟨[]⟩))):
 T W (cR p (b,hs)::own (ah r) q q 1 (res.flatMap I1)::R) (nd (ah p) s nn c (some ⟨r,o,none⟩) nn c2 (.func (.func N.ma) ⟨[]⟩ ⟨[]⟩) K):=by
 subst MO;unfold nd;refine qD (p:=p) λhg=>?_;apply Ph (p:=p);apply ws;intro w jo;refine⟨λvs w=>∃(i:Nat)(b':bh)(fC:List C),i<=l.length/\gL bh.make b (l.take i) 0=(none,b')/\Is b'/\Ext (fN b) hs (fN b') fC (8* i)/\vs=[.i (hs.length:Int),.l s l.length c,.i (l.length:Int),.i (i:Int)]/\
  St W w (cR p (b',fC)::own (ah r) q q 1 (res.flatMap I1)::R),
  mq 3 l.length,⟨0,b,hs,aE _,rfl,hP,Ext.refl _ _ _,rfl,jo⟩,?_⟩
 rintro n2 sr oD sq n3 n4 w2 ⟨i,b',fC,hi,P9,MZ,hx,e,gI⟩;cases e
 refine T.at ?_ gI;have e5:=m9 i;have hxl:=hx.len;apply fZ<;>intro g1
 ·have cj:i<l.length:=by omega
  have gx:=aj cj;have qe:l[i]∈l:=cb cj;have uP:l=l.take i++l[i]::l.drop (i+1):=by rw[<-gZ cj,dk]
  have yd:l.take (i+1)=l.take i++[l[i]]:=by rw[ba,gx];rfl
  generalize l[i]=x at gx qe uP yd;have Jl:=iE x qe;refine iq hr ⟨by omega,by omega⟩ rfl λa ha=>?_;rw[ak];apply kd hr ha gx (jR x);apply ws;intros;show T W _ (ma (ah p) (aO x) _);refine Yi (p:=p) G Jl (by omega) λaa6 PX=>?_;have abk:gL bh.make b l 0=gL bh.make b' (x::l.drop (i+1)) (0+(l.take i).length):=by
   conv=>lhs;rw[uP]
   exact sJ _ _ _ _ _ P9
  have hti:(l.take i).length=i:=by rw[aC];omega
  apply ws;apply db<;>intro g2
  ·have g2:(b'.make x).1≠0:=by simpa using g2
   apply T.drop;have hx3:=PX.len;apply Pm (p:=p) hg (hx.trans PX) (by omega);apply ws;apply JA (r:=r) (N:=q) (C:=q) ho cj (by omega);apply ws;refine h1 (i,(b'.make x).1) b' ?_ cj;rw[abk,hti,gL,ai g2,aD]
  ·have g2:(b'.make x).1=0:=by simpa using g2
   rw[e5];apply T.drop;refine λw3 h3=>⟨⟨i+1,_,aa6,cj,?_,MZ.make x,(hx.trans PX).mono (by omega),rfl,h3⟩,dn (by omega)⟩;rw[yd,sJ _ _ _ _ _ P9,gL,af (by omega)]
   rfl
 ·have iO:i=l.length:=by omega
  subst iO;rw[aV] at P9;exact h0 fC b' P9 MZ (by omega)
def aaD(G:qi W){s:OA}{c:Nat}{l:List bN}(hr:np W R aO 14 s l)(hc:l.length<=c)(iE:∀x∈l,yi x)(hP:Is b)(H3:l.length<=10000)(hl:hs.length+8* l.length<800000)
 (h:∀r fC,fC.length<=hs.length+8* l.length->Is (eW bh.make yQ l.length b l).2->(eW bh.make yQ l.length b l).1.length=l.length->
  T W (cR p ((eW bh.make yQ l.length b l).2,fC)::own (some ⟨r,0,none⟩) l.length l.length 1 ((eW bh.make yQ l.length b l).1.flatMap I1)::R) (K (.l (some ⟨r,0,none⟩) l.length l.length))):
 T W (cR p (b,hs)::R) (rW (some ⟨p,0,none⟩) s l.length c K):=by
 unfold rW pH;refine IL ⟨by omega,by omega,by omega,by omega⟩ λr=>?_;rw[ak,show(Builtin.zeroCells ⟨[Value.int aa 0]⟩ l.length).toList=(bj l.length (0:Int)).flatMap I1 from rD (g:=I1) (z:=0) rfl _];show T W (own (some ⟨r,0,none⟩) l.length l.length 1 _::cR p (b,hs)::R) _;refine T.perm (M:=own (some ⟨r,0,none⟩) l.length l.length 1 _::cR p (b,hs)::R) (L:=cR p (b,hs)::own (some ⟨r,0,none⟩) l.length l.length 1 _::R) ?_ (bX.swap _ _ _);intro w jo;refine⟨λvs w=>∃(at_ fuel:Nat)(b':bh)(fC:List C)(done:List Int),at_<=l.length/\done.length=at_/\l.length<=fuel+at_/\
                                                                        eW bh.make yQ l.length b l=(done++(eW bh.make yQ fuel b' (l.drop at_)).1,(eW bh.make yQ fuel b' (l.drop at_)).2)/\Is b'/\fC.length<=hs.length+8* at_/\
                                                                        vs=[.l none 0 0,.l (some ⟨r,0,none⟩) l.length l.length,.i (at_:Int)]/\
                                                                        St W w (cR p (b',fC)::own (some ⟨r,0,none⟩) l.length l.length 1 ((done++bj (l.length-at_) 0).flatMap I1)::R),
  mq 2 l.length,⟨0,l.length,b,hs,[],aE _,rfl,by omega,by simp,hP,by omega,rfl,jo⟩,?_⟩
 rintro sr oD sq vc rA u6 n1 w2 ⟨at_,fuel,b',fC,done,BJ,zF,Sl,nu,MZ,Zq,e,gI⟩;cases e
 refine T.at ?_ gI;apply fZ<;>intro g1
 ·have cj:at_<l.length:=by omega
  have jW:l.drop at_≠[]:=λhh=>by have:=congrArg List.length hh;rw[aR] at this;simp at this;omega
  have wD:(l.drop at_).length=l.length-at_:=aR;apply yB (by omega);have G1:=hr.drop (i:=at_) (c:=c) (by omega) hc;apply X0 G1 wD.symm (by omega);apply ws;obtain⟨n,hn⟩:∃n,(bI yQ (l.drop at_)).1=n:=⟨_,rfl⟩;have afe:n<=l.length-at_:=by rw[<-hn,<-wD];exact sO _
  have adf:0<n:=by
   rw[<-hn];cases hd:l.drop at_ with
   |nil=>exact aQ hd jW
   |cons x l'=>exact Du x l'
  rw[hn];have e6:aa.wrap ((at_:Int)+(n:Int))=((at_+n:Nat):Int):=by rw[aX (by omega)];omega
  rw[e6];apply A9 (by omega) (by omega);have ea:ym (some ⟨r,0,none⟩) l.length at_ 1=some ⟨r,at_,none⟩:=by unfold ym;rw[af (by omega)];show some (Addr.add ⟨r,0,none⟩ (at_* 1))=_;rw[gY,aD,mm]
  rw[ea,M1];obtain⟨fuel,rfl⟩:∃m,fuel=m+1:=⟨fuel-1,by omega⟩;have gA:=Ci (f:=bh.make) (lk:=yQ) (n:=fuel) (s:=b') jW;have hdd:(l.drop at_).drop n=l.drop (at_+n):=iL;have BF:(done++bj (l.length-at_) (0:Int)).length=l.length:=by rw[au,iF];omega
  have FO:(done++bj (l.length-at_) (0:Int)).drop (at_+n)=bj (l.length-(at_+n)) 0:=by
   rw[List.drop_append,fB (by omega),cT,List.drop_replicate];congr 1;omega
  have rB:(done++bj (l.length-at_) (0:Int)).take at_=done:=by rw[<-zF,CW]
  apply db<;>intro g2
  ·have g2:(bI yQ (l.drop at_)).2=false:=by simpa using g2
   have MO:n=l.length-at_:=by rw[<-hn,xM g2,wD]
   have e7:aa.wrap ((n:Int) -1)=((n-1:Nat):Int):=by rw[aX (by omega)];omega
   rw[e7];refine JA (r:=r) (N:=l.length) (C:=l.length) (o:=at_) (n:=n) (by rw[BF];omega) (by omega) (by omega) ?_;apply ws;rw[rB,FO];refine λw3 h3=>⟨⟨at_+n,fuel,b',fC,done++ga n (some (n-1,2)),by omega,by rw[au,iA];omega,by omega,?_,MZ,by omega,rfl,h3⟩,dn (by omega)⟩;rw[ai g2,hn] at gA;rw[nu,gA,show l.drop (at_+n)=[] from fB (by omega),wj];simp
  ·have g2:(bI yQ (l.drop at_)).2=true:=by simpa using g2
   rw[af (by rw[g2];decide),hn,hdd] at gA;apply A9 (by omega) (by omega);rw[M1];have DM:((l.drop at_).take n).length=n:=by rw[aC];omega
   have hr3:=G1.take (i:=n);refine aaN (p:=p) G (l:=(l.drop at_).take n) (o:=at_) hr3 DM.symm (λx hx=>iE x (List.mem_of_mem_drop (List.mem_of_mem_take hx))) MZ (by omega) (by rw[BF];omega) (by omega) (λvY b3 hd hP3 VR=>?_) (λe b3 hd he=>?_)
   ·apply ws;rw[DM] at VR;rw[hd] at gA;refine λw3 h3=>⟨⟨at_+n,fuel,b3,vY,done++ga n none,by omega,by rw[au,iA];omega,by omega,?_,hP3,by omega,rfl,?_⟩,dn (by omega)⟩
    ·rw[nu,gA];simp
    ·have e8:done++bj (l.length-at_) (0:Int)=done++ga n none++bj (l.length-(at_+n)) 0:=by
      rw[aH];congr 1;show _=bj n 0++_;rw[List.replicate_append_replicate];congr 1;omega
     rw[<-e8];exact h3
   ·apply ws;rw[DM];rw[hd] at gA;rw[rB,FO];refine λw3 h3=>⟨⟨at_+n,fuel,b',fC,done++ga n (some e),by omega,by rw[au,iA];omega,by omega,?_,MZ,by omega,rfl,h3⟩,dn (by omega)⟩;rw[nu,gA];simp
 ·have iO:at_=l.length:=by omega
  subst iO;rw[Hc,wj] at nu;simp only[bO] at nu;rw[nu] at h;have:=h r fC (by omega) MZ zF;rw[jS,List.replicate_zero,bO];apply ws;exact this
end
def TOk(t:cx):Prop:=yf t/\kB t
section
variable {W:World} {L R:LH} {K:VK} {X:WK} {p:Nat} {b:bh} {hs:List C}
def XZ{s:OA}{c nn:Nat}{l:List cx}[hh:Has R L](hr:np W R aM 16 s l)(MO:nn=l.length)(hl:l.length<1000000)
 (h:T W L (K (.tuple ⟨[.i ((bI sY l).1:Int),.b (bI sY l).2]⟩))):T W L (lQ s nn c (.func (.func N.gw) ⟨[]⟩ ⟨[]⟩) K):=by
 subst MO;unfold lQ;intro w hs;refine⟨λvs w=>∃i:Nat,i<=l.length/\(∀j y,j<i->l[j]?=some y->sY y=true)/\vs=[.i 0,.b false,.l s l.length c,.i (l.length:Int),.i (i:Int)]/\St W w L,
  mq 4 l.length,⟨0,aE _,λj y hj=>by omega,rfl,hs⟩,?_⟩
 rintro n1 b1 jJ iX jV n2 n3 w2 ⟨i,hi,fx,e,gI⟩;cases e
 refine T.at ?_ gI;have e5:=m9 i;apply fZ<;>intro g1
 ·have cj:i<l.length:=by omega
  have gx:=aj cj;generalize l[i]=x at gx;refine iq hr ⟨by omega,by omega⟩ rfl λa ha=>?_;rw[ak];apply kd hr ha gx (Cu x);apply ws;intros;show T W _ (gw (aM x) _);unfold gw;apply ws;intros;rw[HT];rw[e5];apply db<;>intro g2
  ·have g2:sY x=false:=by simpa [sY] using g2
   rw[xN fx gx g2] at h;exact T.dp h
  ·have g2:sY x=true:=by simpa [sY] using g2
   refine T.drop (T.drop ?_);refine λw3 h3=>⟨⟨i+1,cj,λj y hj hy=>?_,rfl,h3⟩,dn (by omega)⟩;by_cases LJ:j=i
   ·subst LJ;rw[gx] at hy;cases hy;exact g2
   ·exact fx j y (by omega) hy
 ·have iO:i=l.length:=by omega
  subst iO;rw[vF λx hx=>by obtain⟨j,hj⟩:=qB hx;exact fx j x (av.1 hj).1 hj] at h;exact h
def aaM(G:qi W){s:OA}{c c2 nn:Nat}{l:List cx}{r q o:Nat}{res:List Int}(hr:np W R aM 16 s l)(MO:nn=l.length)(iE:∀x∈l,TOk x)(hP:Is b)(hl:hs.length+8* l.length<800000)
 (ho:o+l.length<=res.length)(Ly:0<l.length)
 (h0:∀fC b',gL bh.lO b l 0=(none,b')->Is b'->fC.length<=hs.length+8* l.length->T W (cR p (b',fC)::own (ah r) q q 1 (res.flatMap I1)::R) (K (.tuple ⟨[]⟩)))
 (h1:∀e b',gL bh.lO b l 0=(some e,b')->e.1<l.length->T W (cR p (b,hs)::own (ah r) q q 1 ((res.take o++ga l.length (some e)++res.drop (o+l.length)).flatMap I1)::R) (K (.tuple ⟨[]⟩))):
 T W (cR p (b,hs)::own (ah r) q q 1 (res.flatMap I1)::R) (mB (ah p) s nn c (some ⟨r,o,none⟩) nn c2 (.func (.func N.ov) ⟨[]⟩ ⟨[]⟩) K):=by
 subst MO;unfold mB;refine qD (p:=p) λhg=>?_;apply Ph (p:=p);apply ws;intro w jo;refine⟨λvs w=>∃(i:Nat)(b':bh)(fC:List C),i<=l.length/\gL bh.lO b (l.take i) 0=(none,b')/\Is b'/\Ext (fN b) hs (fN b') fC (8* i)/\vs=[.i (hs.length:Int),.l s l.length c,.i (l.length:Int),.i (i:Int)]/\
  St W w (cR p (b',fC)::own (ah r) q q 1 (res.flatMap I1)::R),
  mq 3 l.length,⟨0,b,hs,aE _,rfl,hP,Ext.refl _ _ _,rfl,jo⟩,?_⟩
 rintro n2 sr oD sq n3 n4 w2 ⟨i,b',fC,hi,P9,MZ,hx,e,gI⟩;cases e
 refine T.at ?_ gI;have e5:=m9 i;have hxl:=hx.len;apply fZ<;>intro g1
 ·have cj:i<l.length:=by omega
  have gx:=aj cj;have qe:l[i]∈l:=cb cj;have uP:l=l.take i++l[i]::l.drop (i+1):=by rw[<-gZ cj,dk]
  have yd:l.take (i+1)=l.take i++[l[i]]:=by rw[ba,gx];rfl
  generalize l[i]=x at gx qe uP yd;have Jl:=iE x qe;refine iq hr ⟨by omega,by omega⟩ rfl λa ha=>?_;rw[ak];apply kd hr ha gx (Cu x);apply ws;intros;show T W _ (ov (ah p) (aM x) _);refine adH (p:=p) G Jl.1 Jl.2 (by obtain⟨m,h3,h4⟩:=MZ;exact Yy h3 h4) (by omega) λaa6 PX=>?_;have abk:gL bh.lO b l 0=gL bh.lO b' (x::l.drop (i+1)) (0+(l.take i).length):=by
   conv=>lhs;rw[uP]
   exact sJ _ _ _ _ _ P9
  have hti:(l.take i).length=i:=by rw[aC];omega
  apply ws;apply db<;>intro g2
  ·have g2:(b'.lO x).1≠0:=by simpa using g2
   apply T.drop;have hx3:=PX.len;apply Pm (p:=p) hg (hx.trans PX) (by omega);apply ws;apply JA (r:=r) (N:=q) (C:=q) ho cj (by omega);apply ws;refine h1 (i,(b'.lO x).1) b' ?_ cj;rw[abk,hti,gL,ai g2,aD]
  ·have g2:(b'.lO x).1=0:=by simpa using g2
   rw[e5];apply T.drop;refine λw3 h3=>⟨⟨i+1,_,aa6,cj,?_,MZ.lO x,(hx.trans PX).mono (by omega),rfl,h3⟩,dn (by omega)⟩;rw[yd,sJ _ _ _ _ _ P9,gL,af (by omega)]
   rfl
 ·have iO:i=l.length:=by omega
  subst iO;rw[aV] at P9;exact h0 fC b' P9 MZ (by omega)
def aaC(G:qi W){s:OA}{c:Nat}{l:List cx}(hr:np W R aM 16 s l)(hc:l.length<=c)(iE:∀x∈l,TOk x)(hP:Is b)(H3:l.length<=10000)(hl:hs.length+8* l.length<800000)
 (h:∀r fC,fC.length<=hs.length+8* l.length->Is (eW bh.lO sY l.length b l).2->(eW bh.lO sY l.length b l).1.length=l.length->
  T W (cR p ((eW bh.lO sY l.length b l).2,fC)::own (some ⟨r,0,none⟩) l.length l.length 1 ((eW bh.lO sY l.length b l).1.flatMap I1)::R) (K (.l (some ⟨r,0,none⟩) l.length l.length))):
 T W (cR p (b,hs)::R) (qZ (some ⟨p,0,none⟩) s l.length c K):=by
 unfold qZ pn;refine IL ⟨by omega,by omega,by omega,by omega⟩ λr=>?_;rw[ak,show(Builtin.zeroCells ⟨[Value.int aa 0]⟩ l.length).toList=(bj l.length (0:Int)).flatMap I1 from rD (g:=I1) (z:=0) rfl _];show T W (own (some ⟨r,0,none⟩) l.length l.length 1 _::cR p (b,hs)::R) _;refine T.perm (M:=own (some ⟨r,0,none⟩) l.length l.length 1 _::cR p (b,hs)::R) (L:=cR p (b,hs)::own (some ⟨r,0,none⟩) l.length l.length 1 _::R) ?_ (bX.swap _ _ _);intro w jo;refine⟨λvs w=>∃(at_ fuel:Nat)(b':bh)(fC:List C)(done:List Int),at_<=l.length/\done.length=at_/\l.length<=fuel+at_/\
                                                                        eW bh.lO sY l.length b l=(done++(eW bh.lO sY fuel b' (l.drop at_)).1,(eW bh.lO sY fuel b' (l.drop at_)).2)/\Is b'/\fC.length<=hs.length+8* at_/\
                                                                        vs=[.l none 0 0,.l (some ⟨r,0,none⟩) l.length l.length,.i (at_:Int)]/\
                                                                        St W w (cR p (b',fC)::own (some ⟨r,0,none⟩) l.length l.length 1 ((done++bj (l.length-at_) 0).flatMap I1)::R),
  mq 2 l.length,⟨0,l.length,b,hs,[],aE _,rfl,by omega,by simp,hP,by omega,rfl,jo⟩,?_⟩
 rintro sr oD sq vc rA u6 n1 w2 ⟨at_,fuel,b',fC,done,BJ,zF,Sl,nu,MZ,Zq,e,gI⟩;cases e
 refine T.at ?_ gI;apply fZ<;>intro g1
 ·have cj:at_<l.length:=by omega
  have jW:l.drop at_≠[]:=λhh=>by have:=congrArg List.length hh;rw[aR] at this;simp at this;omega
  have wD:(l.drop at_).length=l.length-at_:=aR;apply yB (by omega);have G1:=hr.drop (i:=at_) (c:=c) (by omega) hc;apply XZ G1 wD.symm (by omega);apply ws;obtain⟨n,hn⟩:∃n,(bI sY (l.drop at_)).1=n:=⟨_,rfl⟩;have afe:n<=l.length-at_:=by rw[<-hn,<-wD];exact sO _
  have adf:0<n:=by
   rw[<-hn];cases hd:l.drop at_ with
   |nil=>exact aQ hd jW
   |cons x l'=>exact Du x l'
  rw[hn];have e6:aa.wrap ((at_:Int)+(n:Int))=((at_+n:Nat):Int):=by rw[aX (by omega)];omega
  rw[e6];apply A9 (by omega) (by omega);have ea:ym (some ⟨r,0,none⟩) l.length at_ 1=some ⟨r,at_,none⟩:=by unfold ym;rw[af (by omega)];show some (Addr.add ⟨r,0,none⟩ (at_* 1))=_;rw[gY,aD,mm]
  rw[ea,M1];obtain⟨fuel,rfl⟩:∃m,fuel=m+1:=⟨fuel-1,by omega⟩;have gA:=Ci (f:=bh.lO) (lk:=sY) (n:=fuel) (s:=b') jW;have hdd:(l.drop at_).drop n=l.drop (at_+n):=iL;have BF:(done++bj (l.length-at_) (0:Int)).length=l.length:=by rw[au,iF];omega
  have FO:(done++bj (l.length-at_) (0:Int)).drop (at_+n)=bj (l.length-(at_+n)) 0:=by
   rw[List.drop_append,fB (by omega),cT,List.drop_replicate];congr 1;omega
  have rB:(done++bj (l.length-at_) (0:Int)).take at_=done:=by rw[<-zF,CW]
  apply db<;>intro g2
  ·have g2:(bI sY (l.drop at_)).2=false:=by simpa using g2
   have MO:n=l.length-at_:=by rw[<-hn,xM g2,wD]
   have e7:aa.wrap ((n:Int) -1)=((n-1:Nat):Int):=by rw[aX (by omega)];omega
   rw[e7];refine JA (r:=r) (N:=l.length) (C:=l.length) (o:=at_) (n:=n) (by rw[BF];omega) (by omega) (by omega) ?_;apply ws;rw[rB,FO];refine λw3 h3=>⟨⟨at_+n,fuel,b',fC,done++ga n (some (n-1,2)),by omega,by rw[au,iA];omega,by omega,?_,MZ,by omega,rfl,h3⟩,dn (by omega)⟩;rw[ai g2,hn] at gA;rw[nu,gA,show l.drop (at_+n)=[] from fB (by omega),wj];simp
  ·have g2:(bI sY (l.drop at_)).2=true:=by simpa using g2
   rw[af (by rw[g2];decide),hn,hdd] at gA;apply A9 (by omega) (by omega);rw[M1];have DM:((l.drop at_).take n).length=n:=by rw[aC];omega
   have hr3:=G1.take (i:=n);refine aaM (p:=p) G (l:=(l.drop at_).take n) (o:=at_) hr3 DM.symm (λx hx=>iE x (List.mem_of_mem_drop (List.mem_of_mem_take hx))) MZ (by omega) (by rw[BF];omega) (by omega) (λvY b3 hd hP3 VR=>?_) (λe b3 hd he=>?_)
   ·apply ws;rw[DM] at VR;rw[hd] at gA;refine λw3 h3=>⟨⟨at_+n,fuel,b3,vY,done++ga n none,by omega,by rw[au,iA];omega,by omega,?_,hP3,by omega,rfl,?_⟩,dn (by omega)⟩
    ·rw[nu,gA];simp
    ·have e8:done++bj (l.length-at_) (0:Int)=done++ga n none++bj (l.length-(at_+n)) 0:=by
      rw[aH];congr 1;show _=bj n 0++_;rw[List.replicate_append_replicate];congr 1;omega
     rw[<-e8];exact h3
   ·apply ws;rw[DM];rw[hd] at gA;rw[rB,FO];refine λw3 h3=>⟨⟨at_+n,fuel,b',fC,done++ga n (some e),by omega,by rw[au,iA];omega,by omega,?_,MZ,by omega,rfl,h3⟩,dn (by omega)⟩;rw[nu,gA];simp
 ·have iO:at_=l.length:=by omega
  subst iO;rw[Hc,wj] at nu;simp only[bO] at nu;rw[nu] at h;have:=h r fC (by omega) MZ zF;rw[jS,List.replicate_zero,bO];apply ws;exact this
end
end Go.Up
namespace Go.Prog
open Go.Den Go.Up Go.Md
def uw(p:OA)(now:Int)(K:VK):WK:=λw=>∃(W:World)(L:List Sep.HP)(a:Nat)(b:Up.bh)(m:aA)(hs:List C),
 p=ah a/\Sep.St W w (cR a (b,hs)::L)/\pJ b m/\Md.bS m/\hs.length<=100000/\
 ∀(n:Int)(b':Up.bh)(fC:List C)(w':World),pJ b' (m.time now)->Md.bS (m.time now)->fC.length<=200000->Sep.St W w' (cR a (b',fC)::L)->K (.i n) w'
def uw.u:WP:=λargs K=>match args with|[.pointer p,.int .i64 n]=>uw p n K|_=>no
end Go.Prog
