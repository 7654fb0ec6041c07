/- Part of the proof: see the last text. -/
import Derived.Test.YtibneekkkdnmgaaGreatDoorPB
set_option linter.all false
set_option maxRecDepth 100000
set_option synthInstance.maxSize 100000
open Bool renaming false_eq_true→cB,false_ne_true→cG,eq_iff_iff→bV
open Decidable renaming not_not→bh
open Go.IntKind renaming i64→aa
open Int renaming toNat_natCast→ao,le_refl→sH,fdiv_eq_ediv_of_nonneg→F3
open List renaming getElem?_eq_getElem→aj,getElem?_eq_some_iff→aw,replicate→bn,append_nil→bI,map_append→cR,getElem?_set→dc,getElem?_map→eK,flatMap_append→fQ,flatMap_cons→iB,map_map→oU,range→pr,getElem?_eq_none→pE,ext_getElem?→qk,getElem?_range→qO,length_cons→bt,mem_of_getElem?→cb,mem_or_eq_of_mem_set→eY,length_set→iP,length_replicate→mO,set_cons_succ→mV,getElem?_of_mem→qj,take_length→aR,Perm→bU,perm_middle→iy,take_succ_eq_append_getElem→qi,length_append→au,length_take→aD,append_assoc→aH,length_drop→aS,take_add_one→a8,take_append_drop→dj,length_reverse→jb,pairwise_iff_getElem→pT,getElem?_drop→rW,perm_append_comm→bu,getElem?_append_left→dB,drop_of_length_le→ga,drop_eq_getElem_cons→gO,getElem?_take→rV,length_singleton→pD,Sublist→ba,mem_map→cw,mem_cons→jB,nil_append→de,set_set→jk,take_zero→nG,reverse_cons→xC,take_left→Cc,map_cons→cN,mem_append→dF,map_congr_left→dS,mem_of_find?_eq_some→mM,find?_eq_none→mW,map_nil→ud,mem_singleton→Cd,length_map→bP,getElem_mem→bR,getElem?_cons_succ→bO,cons_append→kV,Mem→dH,getElem?_append_right→iz,filter_cons_of_pos→kT,filter_cons_of_neg→kU,drop_drop→jz
open Nat renaming zero_add→aC,mod_eq_of_lt→fw,mul_le_mul_right→ie,add_mul→lO,mul_comm→vB,pow_le_pow_right→gv,le_refl→aG,add_zero→dZ,pow_succ→y8,zero_le→aE,sub_self→lu,mul_one→lN,min_eq_left→qG
open Option renaming some→bE,map_some→eW,getD_some→dx,isSome_some→dy,isSome_none→eQ,getD_none→gw,map→ya
namespace Go.Md
def iu(a:bC)(bp:Bool):Nat:=if bp then a.cq-(a.dp+a.dq) else a.dq-(a.cp+a.cq)
def more(a:bC)(bp:Bool)(n:Nat)(pending:Bool):bC×Int:=
 if bp then
  (if bB<=a.dp+a.dq+n then(a,32) else if has a.ak 2/\iu a true<n then(a,33) else(if pending then{a with dp:=a.dp+n} else{a with dq:=a.dq+n},0))
 else
  (if bB<=a.cp+a.cq+n then(a,32) else if has a.ak 4/\iu a false<n then(a,34) else(if pending then{a with cp:=a.cp+n} else{a with cq:=a.cq+n},0))
def aA.full(m:aA)(a:bC):bC:=m.ax.foldl vX a
def aA.find(m:aA)(id:Nat):Option bC:=m.cy.find? λa=>a.id=id
def aA.name(m:aA)(id:Nat):Option Nat:=m.ax.findIdx? λk=>k.move.id=id
def aA.make(m:aA)(a:bC):Int×aA:=
 if tI a≠0 then(tI a,m) else match m.find a.id with
 |some x=>(tJ a x,m)
 |none=>if 32<=m.cy.length then(35,m) else(0,{m with ay:=m.ay+1,cy:=m.cy++[{a with ay:=m.ay+1,ak:=a.ak/2* 2}]})
def aA.mD(m:aA)(asked t:cE)(fate:Int):aA:=
 {m with ay:=m.ay+1,ax:=m.ax++[⟨asked,{t with ay:=m.ay+1,jj:=m.clock},fate⟩]}
def cZ(t:cE)(d c:bC):Nat×Int:=
 let n0:=if t.aU=0 then bB-1 else t.aU
 let n1:=if has t.ak 16 then min n0 (iu d true) else n0
 if has t.ak 16/\n1=0 then(0,33) else
 let n2:=if has t.ak 32 then min n1 (iu c false) else n1
 if has t.ak 32/\n2=0 then(0,34) else(n2,0)
def jn(t:cE)(named:Option bW)(d c:Option bC)(many:Nat):Int×Nat:=
 if mT t≠0 then(mT t,0) else if jA t.ak then(6,0) else match named with
 |some k=>(sE t k.asked,0)
 |none=>match d with
  |none=>(19,0)
  |some d=>match c with
   |none=>(20,0)
   |some c=>
    if d.aZ≠c.aZ then(21,0) else if d.aZ≠t.aZ then(22,0) else if 8<=d.ak then(30,0) else if 8<=c.ak then(31,0)
    else if 96<=many then(35,0)
    else if(cZ t d c).2≠0 then((cZ t d c).2,0)
    else if(more d true (cZ t d c).1 (decide (has t.ak 2))).2≠0 then((more d true (cZ t d c).1 (decide (has t.ak 2))).2,0)
    else if(more c false (cZ t d c).1 (decide (has t.ak 2))).2≠0 then((more c false (cZ t d c).1 (decide (has t.ak 2))).2,0)
    else(0,(cZ t d c).1)
def waits(t:cE):Int:=if has t.ak 2 then 1 else 0
def aA.named(m:aA)(id:Nat):Option bW:=m.ax.find? λk=>k.move.id=id
def aA.move(m:aA)(t:cE):Int×aA:=
 let r:=jn t (m.named t.id) ((m.find t.bp).map m.full) ((m.find t.aP).map m.full) m.ax.length
 if r.1≠0 then(r.1,m) else(0,m.mD t {t with aU:=r.2} (waits t))
def aA.closed(m:aA)(id:Nat)(Xb:Nat):Bool:=
 match m.find id with
 |some a=>decide (8<=((m.ax.modify Xb λk=>{k with fate:=3}).foldl vX a).ak)
 |none=>false
def fH(t p:cE):Prop:=(t.bp≠0/\t.bp≠p.bp)\/(t.aP≠0/\t.aP≠p.aP)\/(t.aZ≠0/\t.aZ≠p.aZ)\/(t.code≠0/\t.code≠p.code)
instance(t p:cE):Decidable (fH t p):=by unfold fH;infer_instance
def cM(t p:cE):Nat:=if t.aU=0 then p.aU else t.aU
def lF(t p:cE):Prop:=(has t.ak 4/\p.aU<cM t p)\/(¬has t.ak 4/\cM t p≠p.aU)
instance(t p:cE):Decidable (lF t p):=by unfold lF;infer_instance
def nH(t:cE)(named pend:Option bW)(W2 W9:Bool)(many:Nat):Int:=
 if mT t≠0 then mT t else if ¬jA t.ak then 6 else match named with
 |some k=>sE t k.asked
 |none=>match pend with
  |none=>23
  |some k=>
   if ¬has k.move.ak 2 then 24 else if fH t k.move then 25 else if 1<k.fate then 25+k.fate else if lF t k.move then 26
   else if has t.ak 4/\W2=true then 30 else if has t.ak 4/\W9=true then 31 else if 96<=many then 35 else 0
def cJ(t:cE):Int:=if has t.ak 4 then 2 else 3
def l7(t p:cE):cE:={t with bp:=p.bp,aP:=p.aP,aU:=cM t p,aZ:=p.aZ,code:=p.code}
def aA.dE(m:aA)(i:Nat)(fate:Int):aA:={m with ax:=m.ax.modify i λk=>{k with fate:=fate}}
def aA.oN(m:aA)(t:cE):Int×aA:=
 match m.name t.pending with
 |none=>(nH t (m.named t.id) none false false m.ax.length,m)
 |some i=>match m.ax[i]? with
  |none=>(nH t (m.named t.id) none false false m.ax.length,m)
  |some k=>
   let r:=nH t (m.named t.id) (some k) (m.closed k.move.bp i) (m.closed k.move.aP i) m.ax.length
   if r≠0 then(r,m) else(0,(m.dE i (cJ t)).mD t (l7 t k.move) 0)
def kY(clock:Int)(k:bW):Prop:=k.fate=1/\0<k.move.cu/\k.move.jj+k.move.cu<=clock
instance(clock:Int)(k:bW):Decidable (kY clock k):=by unfold kY;infer_instance
def aA.time(m:aA)(now:Int):aA:=
 let clock:=if m.clock<now/\now<=1099511627776 then now else m.clock
 {m with clock:=clock,ax:=m.ax.map λk=>if kY clock k then{k with fate:=4} else k}
def aA.qL(m:aA)(t:cE):Int×aA:=if mT t=0/\jA t.ak then m.oN t else m.move t
def aY.find(b:aY)(id:Nat):Option bC:=b.aB.find? λa=>a.id=id
def aY.bA(b:aY)(a:bC):aY:={b with aB:=b.aB.map λx=>if x.id=a.id then{a with ay:=x.ay} else x}
def aY.mD(b:aY)(asked t:cE)(fate:Int):aY:=
 {b with ay:=b.ay+1,ax:=b.ax++[⟨asked,{t with ay:=b.ay+1,jj:=b.clock},fate⟩]}
def aY.fate(b:aY)(id:Nat)(fate:Int):aY:={b with ax:=b.ax.map λk=>if k.move.id=id/\k.fate=1 then{k with fate:=fate} else k}
def aY.make(b:aY)(a:bC):Int×aY:=
 if tI a≠0 then(tI a,b) else match b.find a.id with
 |some x=>(tJ a x,b)
 |none=>if 32<=b.aB.length then(35,b) else(0,{b with ay:=b.ay+1,aB:=b.aB++[{a with ay:=b.ay+1,ak:=a.ak/2* 2}]})
def close(a:bC)(yes:Prop)[Decidable yes]:bC:=if yes then{a with ak:=a.ak%8+8} else a
def open_(a:bC)(yes:Prop)[Decidable yes]:bC:=if yes then{a with ak:=a.ak%8} else a
def aY.named(b:aY)(id:Nat):Option bW:=b.ax.find? λk=>k.move.id=id
def aY.Cv(b:aY)(t:cE)(n:Nat):aY:=
 match b.find t.bp,b.find t.aP with
 |some d,some c=>((b.bA (close (more d true n (decide (has t.ak 2))).1 (has t.ak 64))).bA (close (more c false n (decide (has t.ak 2))).1 (has t.ak 128))).mD t {t with aU:=n} (waits t)
 |_,_=>b
def aY.move(b:aY)(t:cE):Int×aY:=
 let r:=jn t (b.named t.id) (b.find t.bp) (b.find t.aP) b.ax.length
 if r.1≠0 then(r.1,b) else(0,b.Cv t r.2)
def zJ(d:bC)(p:cE)(n:Nat)(fate:Int):bC:=if fate=2 then{d with dp:=d.dp-p.aU,dq:=d.dq+n} else open_ {d with dp:=d.dp-p.aU} (has p.ak 64)
def AJ(c:bC)(p:cE)(n:Nat)(fate:Int):bC:=if fate=2 then{c with cp:=c.cp-p.aU,cq:=c.cq+n} else open_ {c with cp:=c.cp-p.aU} (has p.ak 128)
def aY.release(b:aY)(p:cE)(n:Nat)(fate:Int):aY:=
 match b.find p.bp,b.find p.aP with
 |some d,some c=>((b.bA (zJ d p n fate)).bA (AJ c p n fate)).fate p.id fate
 |_,_=>b
def aY.mo(b:aY)(id:Nat)(by_:Prop)[Decidable by_]:Bool:=match b.find id with|some d=>decide (8<=d.ak/\ ¬by_)|none=>false
def aY.oN(b:aY)(t:cE):Int×aY:=
 match b.named t.pending with
 |none=>(nH t (b.named t.id) none false false b.ax.length,b)
 |some k=>
  let r:=nH t (b.named t.id) (some k) (b.mo k.move.bp (has k.move.ak 64)) (b.mo k.move.aP (has k.move.ak 128)) b.ax.length
  if r≠0 then(r,b) else(0,(b.release k.move (cM t k.move) (cJ t)).mD t (l7 t k.move) 0)
def aY.qL(b:aY)(t:cE):Int×aY:=if mT t=0/\jA t.ak then b.oN t else b.move t
end Go.Md
namespace Go.Up
open Go.Sep Go.Den Go.RowKit Go.Prog Go.Md
section
variable {W:World} {L:LH} {K:VK} {a:bC} {n m:Nat} {p:Bool}
def Zf{a b:Nat}:(if a+b<bB then a+b else bB-1)<bB:=by unfold bB;split<;>omega
def NO(G:qF W)(hn:n<bB)(hm:m<bB)(h:T W L (K (.agg ⟨nm (if n+m<bB then n+m else bB-1)⟩))):T W L (iU (nm n) (nm m) K):=by
 unfold iU
 repeat' first|apply ws;intros|apply wb|first|refine CW hn hm ?_|refine NS ⟨yu _,G.VV⟩ ?_|apply dh<;>intro h1
 all_goals (refine T.fin (T.dp h) ?_;congr 3;all_goals try simp only[bz] at *)
 ·rw[ag (by omega)]
 ·rw[ai h1,ai h1]
def Ji(G:qF W)(ha:wD a)(h:T W L (K (.agg ⟨nm (iu a p)⟩))):T W L (dA (aK a) p K):=by
 obtain⟨-,d1,d2,c1,c2,-,-,-,-⟩:=ha;unfold dA;have k1:∀x y z:Nat,x<bB->y<bB->z<bB->(if x<(if y+z<bB then y+z else bB-1) then 0 else x-(if y+z<bB then y+z else bB-1))=x-(y+z):=λx y z hx hy hz=>by
  by_cases hh:y+z<bB
  ·rw[ai hh];split<;>omega
  ·rw[ag hh];split<;>omega
 have e1:p=true->iu a p=a.cq-(a.dp+a.dq):=λe=>by rw[e];rfl
 have e2:p=false->iu a p=a.dq-(a.cp+a.cq):=λe=>by rw[e];rfl
 repeat' first|apply ws;intros|apply wb|first|refine NO G d1 d2 ?_|refine NO G c1 c2 ?_|apply dh<;>intro h1
 all_goals simp only[dA.j1,dA.j2,dA.j3,dA.j4,dA.j5,dA.j6]
 all_goals repeat' first|apply ws;intros|apply wb|refine T6 (by assumption) Zf ?_
 all_goals (refine T.fin (T.dp h) ?_;first|rw[e1 (by assumption),k1 _ _ _ (by assumption) (by assumption) (by assumption)]|rw[e2 (by assumption),k1 _ _ _ (by assumption) (by assumption) (by assumption)])
def E6(ha:wD a):iu a p<bB:=by
 have:=ha.dq;have:=ha.cq;unfold iu;split<;>omega
def RT(x y z:Nat):Cm 0 [x,y,z]=if x+y+z<bB then some (x+y+z) else none:=by
 simp only[Cm,aC]
 repeat' split
 all_goals first|rfl|omega
def Xw(G:qF W)(ha:wD a)(hn:n<bB)(hf:0<=a.ak/\a.ak<256)(h:T W L (K (.tuple ⟨[.agg ⟨aK (more a true n p).1⟩,.i (more a true n p).2]⟩))):T W L (np (aK a) (nm n) p K):=by
 unfold np;apply ws;intros;rename_i r4;refine YE (l:=[a.dp,a.dq,n]) (by simp;exact⟨ha.dp,ha.dq,hn⟩) (by show 3<1000;decide) ?_;rw[RT];apply ws;intros;unfold more at h;apply dh<;>intro h1
 ·have hh: ¬a.dp+a.dq+n<bB:=λhh=>by rw[ai hh] at h1;cases h1
  rw[ai rfl,ai (by omega)] at h;apply ws;exact T.dp h
 have hh:a.dp+a.dq+n<bB:=by
  by_cases hh:a.dp+a.dq+n<bB
  ·exact hh
  ·rw[ag hh] at h1;cases h1
 rw[ai rfl,ag (by omega)] at h;have j1:∀r5 r4 r3 r2 r1:Nat,∀c4 c5:LV,T W (Sep.pt r5 c5::Sep.pt r4 c4::Sep.pt r3 (aK zA)::Sep.pt r2 (nm n)::Sep.pt r1 (aK a)::L) (np.j1 K r1 r3 p r2 (decide (has a.ak 2/\iu a true<n))):=λr5 r4 r3 r2 r1 c4 c5=>by
  unfold np.j1;apply fV<;>intro h1
  ·rw[ai (h1)] at h;apply ws;exact T.dp h
  rw[ag (h1)] at h;apply dh<;>intro h1
  ·rw[ai h1] at h;have hx:a.dp+n<bB:=by omega
   repeat' first|apply ws|apply wb|refine CW ha.dp hn ?_
   rw[ai hx];exact T.dp h
  ·rw[ag (by rw[h1];decide)] at h;have hx:a.dq+n<bB:=by omega
   repeat' first|apply ws|apply wb|refine CW ha.dq hn ?_
   rw[ai hx];exact T.dp h
 apply ws;apply dh<;>intro h1
 ·have h2:has a.ak 2:=by
   have:=fy.1 h1;rw[ne_eq,Lp hf.1 hf.2,bh] at this;exact this
  repeat' first|apply ws|apply wb|first|refine Ji G ha ?_|refine Cb ?_
  have e:decide (iu a true<n)=decide (has a.ak 2/\iu a true<n):=by simp[h2]
  rw[e];exact j1 _ _ _ _ _ _ _
 ·have h2: ¬has a.ak 2:=(Lp hf.1 hf.2).1 (bne_eq_false_iff_eq.1 h1);have e:false=decide (has a.ak 2/\iu a true<n):=by simp[h2]
  rw[e];exact j1 _ _ _ _ _ _ _
def Ur(G:qF W)(ha:wD a)(hn:n<bB)(hf:0<=a.ak/\a.ak<256)(h:T W L (K (.tuple ⟨[.agg ⟨aK (more a false n p).1⟩,.i (more a false n p).2]⟩))):T W L (me (aK a) (nm n) p K):=by
 unfold me;apply ws;intros;rename_i r4;refine YE (l:=[a.cp,a.cq,n]) (by simp;exact⟨ha.cp,ha.cq,hn⟩) (by show 3<1000;decide) ?_;rw[RT];apply ws;intros;unfold more at h;apply dh<;>intro h1
 ·have hh: ¬a.cp+a.cq+n<bB:=λhh=>by rw[ai hh] at h1;cases h1
  rw[ag (by decide),ai (by omega)] at h;apply ws;exact T.dp h
 have hh:a.cp+a.cq+n<bB:=by
  by_cases hh:a.cp+a.cq+n<bB
  ·exact hh
  ·rw[ag hh] at h1;cases h1
 rw[ag (by decide),ag (by omega)] at h;have j1:∀r5 r4 r3 r2 r1:Nat,∀c4 c5:LV,T W (Sep.pt r5 c5::Sep.pt r4 c4::Sep.pt r3 (aK zA)::Sep.pt r2 (nm n)::Sep.pt r1 (aK a)::L) (me.j1 K r1 r3 p r2 (decide (has a.ak 4/\iu a false<n))):=λr5 r4 r3 r2 r1 c4 c5=>by
  unfold me.j1;apply fV<;>intro h1
  ·rw[ai (h1)] at h;apply ws;exact T.dp h
  rw[ag (h1)] at h;apply dh<;>intro h1
  ·rw[ai h1] at h;have hx:a.cp+n<bB:=by omega
   repeat' first|apply ws|apply wb|refine CW ha.cp hn ?_
   rw[ai hx];exact T.dp h
  ·rw[ag (by rw[h1];decide)] at h;have hx:a.cq+n<bB:=by omega
   repeat' first|apply ws|apply wb|refine CW ha.cq hn ?_
   rw[ai hx];exact T.dp h
 apply ws;apply dh<;>intro h1
 ·have h2:has a.ak 4:=by
   have:=fy.1 h1;rw[ne_eq,Lo hf.1 hf.2,bh] at this;exact this
  repeat' first|apply ws|apply wb|first|refine Ji G ha ?_|refine Cb ?_
  have e:decide (iu a false<n)=decide (has a.ak 4/\iu a false<n):=by simp[h2]
  rw[e];exact j1 _ _ _ _ _ _ _
 ·have h2: ¬has a.ak 4:=(Lo hf.1 hf.2).1 (bne_eq_false_iff_eq.1 h1);have e:false=decide (has a.ak 4/\iu a false<n):=by simp[h2]
  rw[e];exact j1 _ _ _ _ _ _ _
end
end Go.Up
namespace Go.Up
open Go.Sep Go.Den Go.RowKit Go.Prog Go.Md Go.cD
section
variable {W:World} {L:LH} {K:VK} {X:WK} {α:Type} {r n c e o j:Nat} {l:List α} {x y:α} {g:α->LV} {f:HP->LH}
def gI{K:LV->WK}[i:ux (ah r) n c L e (l.flatMap g) f](hf:∀x,(g x).length=e)(hx:l[o]?=some x)(h:T W L (K (g x))):T W L (aI ⟨r,o* e,none⟩ e K):=λw hs=>by
 obtain⟨k,hk,_⟩:=i.at_;exact Dq hs hk (hf x) (qz hf l o x hx) (h w hs)
def D5{v:Value}[i:ux (ah r) n c L e (l.flatMap g) f](hf:∀x,(g x).length=e)(hx:l[o]?=some x)(hv:(g x)[j]?=some v)(h:T W L (K v)):T W L (ld ⟨r,o* e+j,none⟩ K):=λw hs=>by
 obtain⟨k,hk,_⟩:=i.at_;exact zR hs hk (qz hf l o x hx j v hv) (h w hs)
def D6{v:Value}[i:ux (ah r) n c L e (l.flatMap g) f](hf:∀x,(g x).length=e)(hx:l[o]?=some x)(hv:(g x)[0]?=some v)(h:T W L (K v)):T W L (ld ⟨r,o* e,none⟩ K):=D5 (j:=0) hf hx hv h
def IL(hf:∀x,(g x).length=e)(ho:o<l.length):o* e+e<=(l.flatMap g).length:=by
 rw[A4 hf,<-Nat.succ_mul];exact ie e ho
def qP[i:ux (ah r) n c L e (l.flatMap g) f](hf:∀x,(g x).length=e)(ho:o<l.length)(h1:∀v∈g x,v.oneCell'=true)
 (h:T W (f (own (ah r) n c e ((l.set o x).flatMap g))) X):T W L (jC ⟨r,o* e,none⟩ (g x) X):=λw hs=>by
 obtain⟨k,hk,e1⟩:=i.at_;refine U' hs hk (by rw[hf];exact IL hf ho) h1 λw' h'=>h w' ?_;rw[e1,<-Fa hf l o x ho];exact h'
def BY{v:Value}(hf:∀x,(g x).length=e)(hx:l[o]?=some x)(hy:g y=(g x).set j v)(hj:j<e):(l.flatMap g).set (o* e+j) v=(l.set o y).flatMap g:=by
 have ho:=(aw.1 hx).1;have hle:=IL hf ho;rw[<-Fa hf l o y ho];apply qk;intro i;rw[AO (by rw[hf];exact hle),dc];by_cases h1:i<o* e
 ·rw[ai h1,ag (by omega)]
 ·rw[ag h1];by_cases h2:i<o* e+(g y).length
  ·rw[ai h2,hy,dc];rw[hf] at h2;obtain⟨m,rfl⟩:∃m,i=o* e+m:=⟨i-o* e,by omega⟩;rw[Nat.add_sub_cancel_left];by_cases h3:j=m
   ·subst h3;rw[ai rfl,ai rfl,ai (by omega),ai (by rw[hf];omega)]
   ·rw[ag (by omega),ag h3];have hm:m<(g x).length:=by rw[hf];omega
    rw[aj hm];exact qz hf l o x hx m _ (aj hm)
  ·rw[ag h2,ag (by rw[hf] at h2;omega)]
def DZ{v:Value}[i:ux (ah r) n c L e (l.flatMap g) f](hf:∀x,(g x).length=e)(hx:l[o]?=some x)(hy:g y=(g x).set j v)(hj:j<e)(h1:v.oneCell'=true)
 (h:T W (f (own (ah r) n c e ((l.set o y).flatMap g))) X):T W L (st ⟨r,o* e+j,none⟩ v X):=λw hs=>by
 obtain⟨k,hk,e1⟩:=i.at_;have ho:=(aw.1 hx).1;have hle:=IL (g:=g) hf ho;refine Bw hs hk (by omega) h1 λw' h'=>h w' ?_;rw[e1,<-BY hf hx hy hj];exact h'
def H5{bytes:Nat}{zero:LV}{len cap:Int}{K:OA->Nat->Nat->WK}(h0:0<=len/\len<=cap/\cap<=9223372036854775807/\cap* bytes<=281474976710656)
 (hK:∀r,T W (own (ah r) len.toNat cap.toNat zero.length (Builtin.zeroCells ⟨zero⟩ len.toNat).toList::L) (K (ah r) len.toNat cap.toNat)):T W L (Kl bytes zero len cap K):=λw hs=>
 SF hs h0 λr w' h'=>hK r w' h'
def ru{z:α}{zs:LV}(hz:g z=zs)(m:Nat):(Builtin.zeroCells ⟨zs⟩ m).toList=(bn m z).flatMap g:=by
 subst hz
 induction m with
 |zero=>simp[Builtin.zeroCells]
 |succ m ih=>
  rw[List.replicate_succ',fQ,<-ih];simp only[Builtin.zeroCells,Array.toList_map,Array.toList_range,iB,List.flatMap_nil,bI];rw[lO,Nat.one_mul,List.range_add,cR,oU]
  congr 1
  show(pr (g z).length).map _=g z;apply qk;intro j;rw[eK];by_cases hj:j<(g z).length
  ·rw[qO hj,aj hj];show some _=some _
   congr 1
   simp only[Function.comp];show(⟨g z⟩:Array Value)[(m* (g z).length+j)%(g z).length]! =_;rw[vB,Nat.mul_add_mod,fw hj];simp[hj]
  ·rw[pE (by simpa using hj),pE (by omega)];rfl
end
structure Cell where
 key:Nat
 at_:Int
 kind:Int
def nI(c:Cell):LV:=nm c.key++[.i c.at_,.int .u8 c.kind]
def sB(c:Cell):(nI c).length=4:=rfl
instance{c:Cell}:Ln (nI c) 4:=⟨rfl⟩
instance{c:Cell}:Gt (nI c) 3 (.int .u8 c.kind):=⟨rfl⟩
def yZ(c:Cell):∀v∈nI c,v.oneCell'=true:=oL (l6 _) λv h=>by simp at h;rcases h with rfl|rfl<;>rfl
def N0(n1 n2:Int):Int:=IntKind.u64.wrap ((db .u64 .xor (db .u64 .xor n1 (shl .u64 n2 31)) (shr .u64 n2 33))* 11400714819323198485)
def NZ(x:Int):Int:=db .u64 .xor x (shr .u64 x 29)
def spread(k:Nat):Int:=NZ (N0 ((k%18446744073709551616:Nat):Int) ((k/18446744073709551616:Nat):Int))
def Pow(N:Nat):Prop:=∃j,3<=j/\j<=20/\N=2^j
def Pow.ge{N:Nat}(h:Pow N):8<=N:=by
 obtain⟨j,h1,h2,rfl⟩:=h;exact gv (by decide) h1 (n:=2)
def Pow.le{N:Nat}(h:Pow N):N<=1048576:=by
 obtain⟨j,h1,h2,rfl⟩:=h;exact gv (by decide) h2 (n:=2)
def Lu{N x:Nat}(h:Pow N)(hx:x<18446744073709551616):db .u64 .and (x:Int) ((N:Int) -1)=((x%N:Nat):Int):=by
 have h1:=h.ge;have h2:=h.le;obtain⟨j,-,-,rfl⟩:=h;have e:((2^j:Nat):Int) -1=((2^j-1:Nat):Int):=by omega
 rw[e];unfold db;show IntKind.u64.wrap (((BitVec.ofInt 64 (x:Int)&&&BitVec.ofInt 64 ((2^j-1:Nat):Int)).toNat:Nat):Int)=_;rw[BitVec.toNat_and];have t1:(BitVec.ofInt 64 (x:Int)).toNat=x:=by simp only[BitVec.toNat_ofInt];omega
 have t2:(BitVec.ofInt 64 ((2^j-1:Nat):Int)).toNat=2^j-1:=by simp only[BitVec.toNat_ofInt];omega
 rw[t1,t2,Nat.and_two_pow_sub_one_eq_mod];have:x%2^j<=x:=Nat.mod_le _ _;exact rX (by omega)
def SM(op:BinOp)(x y:Int)(h:op=.and\/op=.or\/op=.xor\/op=.andNot):0<=db .u64 op x y/\db .u64 op x y<18446744073709551616:=by
 rcases h with h|h|h|h<;>subst h<;>(unfold db;dsimp only;simp only[IntKind.wrap,IntKind.bits,IntKind.signed];simp;omega)
def hh(N k:Nat):Nat:=(spread k).toNat%N
def acf{N:Nat}(h:0<N)(k:Nat):hh N k<N:=Nat.mod_lt _ h
def Mj(k:Nat):0<=spread k/\spread k<18446744073709551616:=by
 unfold spread;generalize N0 _ _=x;unfold NZ;generalize shr .u64 x 29=y;exact SM .xor x y (by simp)
def Mk{N k:Nat}(h:Pow N):db .u64 .and (spread k) ((N:Int) -1)=((hh N k:Nat):Int):=by
 obtain⟨h1,h2⟩:=Mj k;unfold hh;generalize spread k=x at h1 h2;obtain⟨n,rfl⟩:∃n:Nat,x=n:=⟨x.toNat,by omega⟩;rw[ao];exact Lu h (by omega)
def NF(cs:List Cell)(i:Nat):Prop:=∃c:Cell,cs[i]?=some c/\c.kind≠0
structure TI(cs:List Cell)(m:Nat->Option Int)(u lf:Nat):Prop where
 pow:Pow cs.length
 kinds:∀c∈cs,c.kind=0\/c.kind=1\/c.kind=2
 used:cs.countP (λc:Cell=>c.kind=1)=u
 left:cs.countP (λc:Cell=>c.kind=2)=lf
 room:4* (u+lf)<=3* cs.length
 run:∀(i:Nat)(c:Cell),cs[i]?=some c->c.kind=1->∃d,d<cs.length/\i=(hh cs.length c.key+d)%cs.length/\∀j,j<d->NF cs ((hh cs.length c.key+j)%cs.length)
 is:∀(i:Nat)(c:Cell),cs[i]?=some c->c.kind=1->m c.key=some c.at_
 has:∀k v,m k=some v->∃(i:Nat)(c:Cell),cs[i]?=some c/\c.kind=1/\c.key=k
 one:∀(i j:Nat)(c d:Cell),cs[i]?=some c->cs[j]?=some d->c.kind=1->d.kind=1->c.key=d.key->i=j
def TD:∀(cs:List Cell),(∀c∈cs,c.kind=0\/c.kind=1\/c.kind=2)->cs.countP (λc:Cell=>c.kind=0)+cs.countP (λc:Cell=>c.kind=1)+cs.countP (λc:Cell=>c.kind=2)=cs.length
 |[],_=>rfl
 |c::cs,h=>by
  have ih:=TD cs λd hd=>h d (by simp[hd]);simp only[List.countP_cons,bt];rcases h c (by simp) with e|e|e<;>simp[e]<;>omega
def countP_set{p:Cell->Bool}:∀(cs:List Cell)(i:Nat)(c x:Cell),cs[i]?=some c->(cs.set i x).countP p+(if p c then 1 else 0)=cs.countP p+(if p x then 1 else 0)
 |[],i,c,x,h=>by simp at h
 |d::cs,0,c,x,h=>by
  simp at h;subst h;simp only[List.set_cons_zero,List.countP_cons];omega
 |d::cs,i+1,c,x,h=>by
  have ih:=countP_set (p:=p) cs i c x (by simpa using h);simp only[mV,List.countP_cons];omega
def TI.free{cs:List Cell}{m:Nat->Option Int}{u lf:Nat}(h:TI cs m u lf)(s:Nat)(ha:∀j,j<cs.length->NF cs ((s+j)%cs.length)):False:=by
 have h8:=h.pow.ge;have hc:=TD cs h.kinds;rw[h.used,h.left] at hc;have h0:0<cs.countP (λc:Cell=>c.kind=0):=by have:=h.room;omega
 rw[List.countP_pos_iff] at h0;obtain⟨c,hm,hk⟩:=h0;obtain⟨i,hi⟩:=qj hm;have cf:=(aw.1 hi).1;have e:(s+(i+cs.length-s%cs.length)%cs.length)%cs.length=i:=by
  have h1:s%cs.length<cs.length:=Nat.mod_lt _ (by omega);rw[Nat.add_mod_mod,Nat.add_mod,];have:s+(i+cs.length-s%cs.length)=cs.length* (s/cs.length+1)+i:=by
   have:=Nat.div_add_mod s cs.length;rw[Nat.mul_add];omega
  rw[<-Nat.add_mod,this,Nat.mul_add_mod,fw cf]
 obtain⟨d,hd,hn⟩:=ha ((i+cs.length-s%cs.length)%cs.length) (Nat.mod_lt _ (by omega));rw[e,hi] at hd;cases hd
 simp at hk;exact hn hk
structure FR(cs:List Cell)(k p:Nat):Prop where
 place:∃(c:Cell)(d:Nat),cs[p]?=some c/\c.kind≠1/\d<cs.length/\p=(hh cs.length k+d)%cs.length/\∀j,j<d->NF cs ((hh cs.length k+j)%cs.length)
 none_:∀(i:Nat)(c:Cell),cs[i]?=some c->c.kind=1->c.key≠k
def wE(m:Nat->Option Int)(k:Nat)(v:Option Int):Nat->Option Int:=λj=>if j=k then v else m j
def NF.set{cs:List Cell}{i p:Nat}{x:Cell}(h:NF cs i)(hx:x.kind≠0):NF (cs.set p x) i:=by
 obtain⟨c,hc,hk⟩:=h;have cf:=(aw.1 hc).1;unfold NF;rw[dc];by_cases e:p=i
 ·rw[ai e,ai (by omega)];exact⟨x,rfl,hx⟩
 ·rw[ag e];exact⟨c,hc,hk⟩
def TI.B8{cs:List Cell}{m:Nat->Option Int}{u lf k:Nat}(h:TI cs m u lf)(hn:∀(i:Nat)(c:Cell),cs[i]?=some c->c.kind=1->c.key≠k):m k=none:=by
 cases hm:m k with
 |none=>rfl
 |some v=>
  obtain⟨i,c,h1,h2,h3⟩:=h.has k v hm;exact aT h3 (hn i c h1 h2)
def vg{cs:List Cell}{p i:Nat}{x c:Cell}(h:(cs.set p x)[i]?=some c):(i=p/\c=x/\p<cs.length)\/(i≠p/\cs[i]?=some c):=by
 rw[dc] at h;by_cases e:p=i
 ·rw[ai e] at h;by_cases hl:p<cs.length
  ·rw[ai (by omega)] at h;cases h;exact .inl ⟨e.symm,rfl,hl⟩
  ·rw[ag (by omega)] at h;cases h
 ·rw[ag e] at h;exact .inr ⟨λh=>e h.symm,h⟩
def TI.put{cs:List Cell}{m:Nat->Option Int}{u lf k p:Nat}{v:Int}{c:Cell}(h:TI cs m u lf)(f:FR cs k p)(hp:cs[p]?=some c)(hr:4* (u+lf+1)<=3* cs.length):
 TI (cs.set p ⟨k,v,1⟩) (wE m k (some v)) (u+1) (if c.kind=2 then lf-1 else lf):=by
 obtain⟨⟨c',d,KQ,hk,hd,hpd,hj⟩,oC⟩:=f;rw[hp] at KQ;cases KQ
 have cf:=(aw.1 hp).1;have hl:(cs.set p ⟨k,v,1⟩).length=cs.length:=iP;have c1:=countP_set (p:=λc:Cell=>c.kind=1) cs p c ⟨k,v,1⟩ hp;have c2:=countP_set (p:=λc:Cell=>c.kind=2) cs p c ⟨k,v,1⟩ hp;have nM:c∈cs:=cb hp;have hnk:=h.B8 oC;rw[h.used] at c1;rw[h.left] at c2;refine⟨by rw[hl];exact h.pow,?_,?_,?_,?_,?_,?_,?_,?_⟩
 ·intro x hx;rcases eY hx with hx|hx
  ·exact h.kinds x hx
  ·subst hx;exact .inr (.inl rfl)
 ·simp[hk] at c1;simpa using c1
 ·by_cases e:c.kind=2
  ·rw[ai e];simp[e] at c2;simpa using by omega
  ·rw[ag e];simp[e] at c2;simpa using c2
 ·rw[hl];split<;>omega
 ·rw[hl];intro i x hi hx;rcases vg hi with⟨rfl,rfl,_⟩|⟨kd,hi⟩
  ·exact⟨d,hd,hpd,λj h1=>(hj j h1).set (show(1:Int)≠0 by decide)⟩
  ·obtain⟨d',h1,h2,h3⟩:=h.run i x hi hx;exact⟨d',h1,h2,λj h4=>(h3 j h4).set (show(1:Int)≠0 by decide)⟩
 ·intro i x hi hx;rcases vg hi with⟨rfl,rfl,_⟩|⟨kd,hi⟩
  ·simp[wE]
  ·unfold wE;rw[ag (oC i x hi hx)];exact h.is i x hi hx
 ·intro k' v' Al;unfold wE at Al;by_cases e:k'=k
  ·subst e;exact⟨p,⟨k',v,1⟩,by rw[dc,ai rfl,ai cf],rfl,rfl⟩
  ·rw[ag e] at Al;obtain⟨i,x,h1,h2,h3⟩:=h.has k' v' Al;refine⟨i,x,?_,h2,h3⟩;rw[dc,ag]
   ·exact h1
   ·intro e2;subst e2;rw[hp] at h1;cases h1;exact hk h2
 ·intro i j x y hi LU hx hy he;rcases vg hi with⟨rfl,rfl,_⟩|⟨kd,hi⟩<;>rcases vg LU with⟨rfl,rfl,_⟩|⟨ad2,LU⟩
  ·rfl
  ·exact aT he.symm (oC j y LU hy)
  ·exact aT he (oC i x (by assumption) hx)
  ·exact h.one i j x y (by assumption) (by assumption) hx hy he
def TI.drop{cs:List Cell}{m:Nat->Option Int}{u lf p:Nat}{c:Cell}(h:TI cs m u lf)(hp:cs[p]?=some c)(hk:c.kind=1):
 TI (cs.set p ⟨0,0,2⟩) (wE m c.key none) (u-1) (lf+1)/\1<=u:=by
 have cf:=(aw.1 hp).1;have hl:(cs.set p ⟨0,0,2⟩).length=cs.length:=iP;have c1:=countP_set (p:=λc:Cell=>c.kind=1) cs p c ⟨0,0,2⟩ hp;have c2:=countP_set (p:=λc:Cell=>c.kind=2) cs p c ⟨0,0,2⟩ hp;rw[h.used] at c1;rw[h.left] at c2;have hu:1<=u:=by simp[hk] at c1;omega
 refine⟨⟨by rw[hl];exact h.pow,?_,?_,?_,by rw[hl];have:=h.room;omega,?_,?_,?_,?_⟩,hu⟩
 ·intro x hx;rcases eY hx with hx|hx
  ·exact h.kinds x hx
  ·subst hx;exact .inr (.inr rfl)
 ·simp[hk] at c1;simpa using by omega
 ·simp[hk] at c2;simpa using c2
 ·rw[hl];intro i x hi hx;rcases vg hi with⟨rfl,rfl,_⟩|⟨kd,hi⟩
  ·exact aT hx (by decide)
  ·obtain⟨d',h1,h2,h3⟩:=h.run i x hi hx;exact⟨d',h1,h2,λj h4=>(h3 j h4).set (by decide)⟩
 ·intro i x hi hx;rcases vg hi with⟨rfl,rfl,_⟩|⟨kd,hi⟩
  ·exact aT hx (by decide)
  ·have:x.key≠c.key:=λe=>kd (h.one i p x c hi hp hx hk e);unfold wE;rw[ag this];exact h.is i x hi hx
 ·intro k' v' Al;unfold wE at Al;by_cases e:k'=c.key
  ·rw[ai e] at Al;cases Al
  ·rw[ag e] at Al;obtain⟨i,x,h1,h2,h3⟩:=h.has k' v' Al;refine⟨i,x,?_,h2,h3⟩;rw[dc,ag]
   ·exact h1
   ·intro e2;subst e2;rw[hp] at h1;cases h1;exact e h3.symm
 ·intro i j x y hi LU hx hy he;rcases vg hi with⟨rfl,rfl,_⟩|⟨kd,hi⟩<;>rcases vg LU with⟨rfl,rfl,_⟩|⟨ad2,LU⟩
  ·rfl
  ·exact aT hx (by decide)
  ·exact aT hy (by decide)
  ·exact h.one i j x y (by assumption) (by assumption) hx hy he
def TI.new{N:Nat}(h:Pow N):TI (bn N ⟨0,0,0⟩) (λ_=>none) 0 0:=by
 refine⟨by rw[mO];exact h,?_,?_,?_,by omega,?_,?_,?_,?_⟩
 ·intro c hc;rw[List.eq_of_mem_replicate hc];exact .inl rfl
 ·rw[List.countP_replicate];rfl
 ·rw[List.countP_replicate];rfl
 ·intro i c hi hk;have:=List.eq_of_mem_replicate (cb hi);subst this;exact aT hk (by decide)
 ·intro i c hi hk;have:=List.eq_of_mem_replicate (cb hi);subst this;exact aT hk (by decide)
 ·intro k v hk;cases hk
 ·intro i j c d hi hj hk;have:=List.eq_of_mem_replicate (cb hi);subst this;exact aT hk (by decide)
def Seen(cs:List Cell)(k d:Nat):Prop:=∀j,j<d->∃c:Cell,cs[(hh cs.length k+j)%cs.length]?=some c/\c.kind≠0/\ ¬(c.kind=1/\c.key=k)
def Seen.nf{cs:List Cell}{k d:Nat}(h:Seen cs k d):∀j,j<d->NF cs ((hh cs.length k+j)%cs.length):=λj hj=>by
 obtain⟨c,h1,h2,_⟩:=h j hj;exact⟨c,h1,h2⟩
def Seen.succ{cs:List Cell}{k d:Nat}{c:Cell}(h:Seen cs k d)(hc:cs[(hh cs.length k+d)%cs.length]?=some c)(h0:c.kind≠0)(h1: ¬(c.kind=1/\c.key=k)):Seen cs k (d+1):=λj hj=>by
 by_cases e:j=d
 ·subst e;exact⟨c,hc,h0,h1⟩
 ·exact h j (by omega)
def Seen.B8{cs:List Cell}{m:Nat->Option Int}{u lf k d:Nat}{c:Cell}(ht:TI cs m u lf)(h:Seen cs k d)(hd:d<cs.length)(hc:cs[(hh cs.length k+d)%cs.length]?=some c)(h0:c.kind=0):
 ∀(i:Nat)(c:Cell),cs[i]?=some c->c.kind=1->c.key≠k:=by
 intro i x hi hx he;obtain⟨d',h1,h2,h3⟩:=ht.run i x hi hx;rw[he] at h2 h3;by_cases e1:d'<d
 ·obtain⟨y,g1,g2,g3⟩:=h d' e1;rw[<-h2,hi] at g1;cases g1;exact g3 ⟨hx,he⟩
 ·by_cases e2:d<d'
  ·obtain⟨y,g1,g2⟩:=h3 d e2;rw[hc] at g1;cases g1;exact g2 h0
  ·have:d=d':=by omega
   subst this;rw[<-h2,hi] at hc;cases hc;rw[h0] at hx;cases hx
section
variable {y z:Cell} {x1 x2 x3 x4:Value}
instance:Wr [x1,x2,x3,x4] 0 (nI y) (nI y):=⟨rfl,aG _,yZ y⟩
instance:Sub (nI y) 0 2 (nm y.key):=⟨zb rfl rfl⟩
instance:Sub (nI y) 0 4 (nI y):=⟨rfl,λj v h=>by rw[aC];exact h⟩
end
def oV(t:Nat)(x:(Nat->Option Int)×Nat):HP:=
 Ra λq:OA×Nat×List Cell×Nat=>FC (TI q.2.2.1 x.1 x.2 q.2.2.2) (sep (Sep.pt t [.l q.1 q.2.2.1.length q.2.1,.i (x.2:Int),.i (q.2.2.2:Int)]) (own q.1 q.2.2.1.length q.2.1 4 (q.2.2.1.flatMap nI)))
section
variable {W:World} {L:LH} {K:VK} {X:WK} {t:Nat} {x:(Nat->Option Int)×Nat} {f:(Nat->Option Int)×Nat->LH}
def RA[i:Lc (oV t) L x f](h:∀b c cs lf R,TI cs x.1 x.2 lf->(∀b' c' vR u' LN m' Y,TI vR m' u' LN->T W (f (m',u')) Y->T W (Sep.pt t [.l b' vR.length c',.i (u':Int),.i (LN:Int)]::own b' vR.length c' 4 (vR.flatMap nI)::R) Y)->
 T W (Sep.pt t [.l b cs.length c,.i (x.2:Int),.i (lf:Int)]::own b cs.length c 4 (cs.flatMap nI)::R) X):T W L X:=
 RD (P:=oV t) λR hc w hs=>by
  obtain⟨⟨b,c,cs,lf⟩,hs⟩:=hs.ex;obtain⟨ht,hs⟩:=hs.and;refine h b c cs lf R ht (λb' c' vR u' LN m' Y Kx hy w h'=>hc (m',u') Y hy w ?_) w hs.split;exact St.qB (b',c',vR,LN) (St.and_intro Kx (St.join h'))
def T.adN{A B C:HP}{R:LH}(h:T W (A::B::C::R) X):T W (C::A::B::R) X:=T.perm h (iy (l₁:=[A,B])).symm
def RW{k:Nat}(h:T W L (K (.u (spread k)))):T W L (tV (nm k) K):=by
 unfold tV
 repeat' first|apply ws;intros|apply wb|refine dD (by decide) ?_
 refine T.fin (T.dp h) ?_
 rfl
def YU{N:Nat}(h1:1<=N)(h2:N<=1048576):IntKind.u64.wrap (aa.wrap ((N:Int) -1))=(N:Int) -1:=by
 rw[aW (by omega)];obtain⟨n,hn⟩:∃n:Nat,(N:Int) -1=n:=⟨N-1,by omega⟩;rw[hn];exact rX (by omega)
def GW{N a d:Nat}(ha:a<N)(hd:d<N):((a+d)%N+N-a)%N=d:=by
 by_cases h:a+d<N
 ·rw[fw h,show a+d+N-a=N+d by omega,Nat.add_mod_left,fw hd]
 ·have:(a+d)%N=a+d-N:=by rw[Nat.mod_eq_sub_mod (by omega),fw (by omega)]
  rw[this,show a+d-N+N-a=d by omega,fw hd]
def RV{N a d:Nat}(hN:Pow N):db .u64 .and (IntKind.u64.wrap ((((a+d)%N:Nat):Int)+1)) ((N:Int) -1)=(((a+(d+1))%N:Nat):Int):=by
 have h1:=hN.le;have h2:=hN.ge;have h3:(a+d)%N<N:=Nat.mod_lt _ (by omega);rw[show(((a+d)%N:Nat):Int)+1=(((a+d)%N+1:Nat):Int) by omega,rX (by omega),Lu hN (by omega)]
 congr 1
 rw[Nat.mod_add_mod];rfl
def IM{b:OA}{c u lf k:Nat}{cs:List Cell}{m:Nat->Option Int}{x1 x2:Value}{f:LV->LH}{g:HP->LH}[i:Lc (Sep.pt t) L [.l b cs.length c,x1,x2] f][j:ux b cs.length c L 4 (cs.flatMap nI) g](ht:TI cs m u lf)
 (h1:∀(i:Nat)(y:Cell),cs[i]?=some y->y.kind=1->y.key=k->T W L (K (.tuple ⟨[.i (i:Int),.b true]⟩)))
 (h2:∀p:Nat,FR cs k p->T W L (K (.tuple ⟨[.i (p:Int),.b false]⟩))):T W L (dk (ah t) (nm k) K):=by
 have hN8:=ht.pow.ge;have hNl:=ht.pow.le;have hhl:=acf (N:=cs.length) (by omega) k;unfold dk
 repeat' first|apply ws;intros|apply wb|refine RW ?_
 rename_i r1;intro w hs;rw[YU (by omega) hNl,Mk ht.pow];refine⟨λvs w=>∃(d:Nat)(put:Int),d<cs.length/\Seen cs k d/\(put= -1\/∃(dp:Nat)(z:Cell),dp<d/\put=(((hh cs.length k+dp)%cs.length:Nat):Int)/\cs[(hh cs.length k+dp)%cs.length]?=some z/\z.kind=2)/\
                           vs=[.p (some (ad r1 0)),.i 0,.b false,.u ((cs.length:Int) -1),.i put,.u (((hh cs.length k+d)%cs.length:Nat):Int)]/\St W w (Sep.pt r1 (nm k)::L),
  λvs _=>match vs with|[_,_,_,_,_,.int _ n]=>cs.length-(n.toNat+cs.length-hh cs.length k)%cs.length|_=>0,
  ⟨0,-1,by omega,λj hj=>by omega,.inl rfl,by rw[dZ,fw hhl],hs⟩,?_⟩
 rintro a1 n1 b1 n2 put n4 w2 ⟨d,ahh,hd,KA,Qj,e,hs⟩;cases e
 refine T.at ?_ hs;have cf:(hh cs.length k+d)%cs.length<cs.length:=Nat.mod_lt _ (by omega);have hy:=aj cf;generalize cs[(hh cs.length k+d)%cs.length]=y at hy;have nM:y∈cs:=cb hy;have ewr:aa.wrap (((hh cs.length k+d)%cs.length:Nat):Int)=(((hh cs.length k+d)%cs.length:Nat):Int):=aW (by omega);apply ws;refine dM ⟨by omega,by omega⟩ λr hr=>?_;subst hr;rw[ao];refine gI sB hy ?_;have next:∀(r2:Nat)(Sl:Int),y.kind≠0-> ¬(y.kind=1/\y.key=k)->(Sl=put\/Sl=(((hh cs.length k+d)%cs.length:Nat):Int)/\y.kind=2)->
                                                                                                                                                                                                                                                                                                                                                                 T W (Sep.pt r2 (nI y)::Sep.pt r1 (nm k)::L) (λw4=>(∃(d':Nat)(put:Int),d'<cs.length/\Seen cs k d'/\(put= -1\/∃(dp:Nat)(z:Cell),dp<d'/\put=(((hh cs.length k+dp)%cs.length:Nat):Int)/\cs[(hh cs.length k+dp)%cs.length]?=some z/\z.kind=2)/\
                                                                                                                                                                                                                                                                                                                                                                 [Value.pointer (some (ad r1 0)),.i 0,.b false,.u ((cs.length:Int) -1),.i Sl,.u (((hh cs.length k+(d+1))%cs.length:Nat):Int)]=[.p (some (ad r1 0)),.i 0,.b false,.u ((cs.length:Int) -1),.i put,.u (((hh cs.length k+d')%cs.length:Nat):Int)]/\St W w4 (Sep.pt r1 (nm k)::L))/\
                                                                                                                                                                                                                                                                                                                                                                 cs.length-((((hh cs.length k+(d+1))%cs.length:Nat):Int).toNat+cs.length-hh cs.length k)%cs.length<cs.length-((((hh cs.length k+d)%cs.length:Nat):Int).toNat+cs.length-hh cs.length k)%cs.length):=by
  intro r2 Sl k0 k1 hp';have SP:=KA.succ hy k0 k1;have Yp:d+1<cs.length:=by
   by_cases hc:d+1<cs.length
   ·exact hc
   ·exact aT (λj hj=>SP.nf j (by omega)) λhh=>ht.free _ hh
  refine T.drop λw3 h3=>⟨⟨d+1,Sl,Yp,SP,?_,rfl,h3⟩,?_⟩
  ·rcases hp' with rfl|⟨rfl,h2k⟩
   ·exact Qj.imp id λ⟨dp,z,g1,g2,g3,g4⟩=>⟨dp,z,by omega,g2,g3,g4⟩
   ·exact .inr ⟨d,y,by omega,rfl,hy,h2k⟩
  ·rw[ao,ao,GW hhl hd,GW hhl Yp];omega
 apply ws;intros;rename_i r2;unfold dk.j1 dk.j2 dk.j3;simp only[RV ht.pow,ewr];apply dh<;>intro g0
 ·have k0:y.kind=0:=by simpa using g0
  apply dh<;>intro g1
  ·refine T.drop (T.drop (h2 _ ⟨⟨y,d,hy,by omega,hd,rfl,KA.nf⟩,KA.B8 ht hd hy k0⟩))
  ·have g2: ¬put<0:=by simpa using g1
   apply ws;refine mR (by simpa using k0) ?_;rcases Qj with rfl|⟨dp,z,q1,rfl,q3,q4⟩
   ·omega
   ·refine T.drop (T.drop (h2 _ ⟨⟨z,dp,q3,by omega,by omega,rfl,λj hj=>KA.nf j (by omega)⟩,KA.B8 ht hd hy k0⟩))
 ·have k0:y.kind≠0:=by simpa using g0
  apply ws;refine gL (by simpa using k0) ?_;apply ws;apply dh<;>intro g1
  ·have k2:y.kind=2:=by simpa using g1
   apply dh<;>intro g2
   ·exact next r2 _ k0 (by omega) (.inr ⟨rfl,k2⟩)
   ·apply ws;refine gL (by rw[k2];rfl) ?_;apply ws;exact next r2 put k0 (by omega) (.inl rfl)
  ·have k1:y.kind=1:=by
    have:=ht.kinds y nM;have:y.kind≠2:=by simpa using g1
    omega
   apply ws;refine mR (by rw[k1];rfl) ?_;apply ws;apply dh<;>intro g2
   ·refine T.drop (T.drop (h1 _ y hy k1 (by simpa using g2)))
   ·exact next r2 put k0 (λhh=>by simp[hh.2] at g2) (.inl rfl)
def CU{k:Nat}[i:Lc (oV t) L x f](h:T W L (K (.tuple ⟨[.i ((x.1 k).getD 0),.b (x.1 k).isSome]⟩))):T W L (hO (ah t) (nm k) K):=by
 unfold hO;refine tS λr1=>gL rfl ?_;apply ws;refine RA (t:=t) λb c cs lf R ht hc=>?_;have close:=hc b c cs x.2 lf x.1;have hL:f (x.1,x.2)=L:=i.same;rw[<-hL] at h;refine IM ht (λi y hy hk he=>?_) (λp hp=>?_)
 ·apply ws;have cf:=(aw.1 hy).1;refine dM ⟨by omega,by omega⟩ λr hr=>?_;subst hr;rw[ao];refine RH ?_;refine D5 (r:=r) (j:=2) sB hy rfl ?_;apply ws;have e:=ht.is i y hy hk;rw[he] at e;rw[e] at h;exact close _ ht (T.drop h)
 ·apply ws;rw[ht.B8 hp.none_] at h;exact close _ ht (T.drop h)
def Uq{k:Nat}[i:Lc (oV t) L x f](hu:x.2<=1000)(h:(x.1 k).isSome=true->T W (f (wE x.1 k none,x.2-1)) (K (.b true)))(h0:x.1 k=none->T W L (K (.b false))):T W L (nV (ah t) (nm k) K):=by
 unfold nV;refine tS λr1=>gL rfl ?_;apply ws;refine RA (t:=t) λb c cs lf R ht hc=>?_;have hL:f (x.1,x.2)=L:=i.same;rw[<-hL] at h0;refine IM ht (λi y hy hk he=>?_) (λp hp=>?_)
 ·apply ws;have cf:=(aw.1 hy).1;refine dM ⟨by omega,by omega⟩ λr hr=>?_;subst hr;rw[ao];have hN:=ht.pow.le;have KB:=ht.room;obtain⟨Kx,hu1⟩:=ht.drop hy hk;rw[he] at Kx;have e:=ht.is i y hy hk;rw[he] at e;refine dD rfl ?_;show T W _ (jC _ (nI ⟨0,0,2⟩) _);refine qP sB cf (yZ _) ?_;apply ws;rw[aW (by omega),aW (by omega),show(x.2:Int) -1=((x.2-1:Nat):Int) by omega,show(lf:Int)+1=((lf+1:Nat):Int) by omega];have:=hc (ah r) c _ _ _ _ _ Kx (T.drop (h (by rw[e];rfl)));rw[iP] at this;exact this
 ·apply ws;exact hc _ _ _ _ _ _ _ ht (T.drop (h0 (ht.B8 hp.none_)))
structure Part(cs:List Cell)(i:Nat)(m':Nat->Option Int)(u':Nat):Prop where
 toX:∀(k:Nat)(v:Int),m' k=some v->∃(j:Nat)(y:Cell),j<i/\cs[j]?=some y/\y.kind=1/\y.key=k/\y.at_=v
 from_:∀(j:Nat)(y:Cell),j<i->cs[j]?=some y->y.kind=1->m' y.key=some y.at_
 n:u'=(cs.take i).countP (λc:Cell=>c.kind=1)
def Part.same{cs:List Cell}{m m':Nat->Option Int}{u lf u':Nat}(ht:TI cs m u lf)(hp:Part cs cs.length m' u'):m'=m/\u'=u:=by
 constructor
 ·funext k
  cases hm:m' k with
  |some v=>
   obtain⟨j,y,h1,h2,h3,h4,h5⟩:=hp.toX k v hm;have:=ht.is j y h2 h3;rw[h4,h5] at this;exact this.symm
  |none=>
   cases hk:m k with
   |none=>rfl
   |some v=>
    obtain⟨j,y,h2,h3,h4⟩:=ht.has k v hk;have:=hp.from_ j y (aw.1 h2).1 h2 h3;rw[h4,hm] at this;cases this
 ·rw[hp.n,aR,ht.used]
def yh(cs:List Cell)(p:Cell->Bool){i:Nat}{y:Cell}(hy:cs[i]?=some y):(cs.take (i+1)).countP p=(cs.take i).countP p+(if p y then 1 else 0):=by
 have cf:=(aw.1 hy).1;rw[qi cf,List.countP_append];have:cs[i]=y:=by rw[aj cf] at hy;exact bE.inj hy
 rw[this,List.countP_singleton]
def aai{b:OA}{c u lf:Nat}{cs:List Cell}{m:Nat->Option Int}{R:LH}(ht:TI cs m u lf)(hu:u<=1000)
 (h:∀b' c' vR,TI vR m u 0->3* (u+1)<=vR.length->T W (Sep.pt t [.l b' vR.length c',.i (u:Int),.i 0]::own b' vR.length c' 4 (vR.flatMap nI)::R) (K (.tuple ⟨[]⟩))):
 T W (Sep.pt t [.l b cs.length c,.i (u:Int),.i (lf:Int)]::own b cs.length c 4 (cs.flatMap nI)::R) (qd (ah t) K):=by
 unfold qd;have hN8:=ht.pow.ge;have hNl:=ht.pow.le;apply ws;intro w hs;refine⟨λvs w=>∃n:Nat,Pow n/\n<=6* (u+1)+8/\vs=[.l b cs.length c,.i (n:Int)]/\St W w (Sep.pt t [.l b cs.length c,.i (u:Int),.i (lf:Int)]::own b cs.length c 4 (cs.flatMap nI)::R),
  λvs _=>match vs with|[_,.int _ n]=>3* (u+1) -n.toNat|_=>0,⟨8,⟨3,by decide,by decide,rfl⟩,by omega,rfl,hs⟩,?_⟩
 rintro qI oW re n1 w2 ⟨n,hn,hnb,e,hs⟩;cases e
 refine T.at ?_ hs;have hn8:=hn.ge;apply ws;rw[aW (show-9223372036854775808<=(u:Int)+1/\(u:Int)+1<=9223372036854775807 by omega),aW (by omega)];apply fV<;>intro h1
 ·have h1:(n:Int)<3* ((u:Int)+1):=h1;rw[aW (by omega)];refine λw3 h3=>⟨⟨n* 2,?_,by omega,by rw[show(n:Int)* 2=((n* 2:Nat):Int) by omega],h3⟩,?_⟩
  ·obtain⟨j,j1,j2,j3⟩:=hn;refine⟨j+1,by omega,?_,by rw[y8,j3]⟩;by_cases hj:j+1<=20
   ·exact hj
   ·have:j=20:=by omega
    subst this;have:n=1048576:=by rw[j3]
    omega
  ·show 3* (u+1) -((n:Int)* 2).toNat<3* (u+1) -(n:Int).toNat;omega
 have h1: ¬(n:Int)<3* ((u:Int)+1):=h1;refine H5 ⟨by omega,by omega,by omega,by omega⟩ λr=>?_;rw[ao,ru (g:=nI) (z:=⟨0,0,0⟩) (zs:=[.u 0,.u 0,.i 0,.int .u8 0]) rfl];show T W (own (ah r) n n 4 ((bn n (⟨0,0,0⟩:Cell)).flatMap nI)::_) _;apply ws;intro w4 hs;refine⟨λvs w=>∃(i:Nat)(vR:List Cell)(m':Nat->Option Int)(u':Nat),i<=cs.length/\vR.length=n/\TI vR m' u' 0/\Part cs i m' u'/\vs=[.l b cs.length c,.i (cs.length:Int),.i (i:Int)]/\
                                                                                                St W w (own (ah r) n n 4 (vR.flatMap nI)::Sep.pt t [.l (ah r) n n,.i (u:Int),.i 0]::own b cs.length c 4 (cs.flatMap nI)::R),
  λvs _=>match vs with|[_,_,.int _ i]=>cs.length-i.toNat|_=>0,
  ⟨0,bn n ⟨0,0,0⟩,λ_=>none,0,by omega,mO,TI.new hn,⟨(λk v hh=>by cases hh),(λj y hj=>by omega),by simp⟩,rfl,hs⟩,?_⟩
 rintro xG vT wO n3 n4 w5 ⟨i,vR,m',u',hi,LS,Kx,hp,e,hs⟩;cases e
 refine T.at ?_ hs;apply fV<;>intro g1
 ·have cf:i<cs.length:=by omega
  have e5:=nL i;have hy:=aj cf;generalize cs[i]=y at hy;have hut:u'+(if y.kind=1 then 1 else 0)<=u:=by
   have e1:=yh cs (λc:Cell=>c.kind=1) hy;have e2:(cs.take (i+1)).countP (λc:Cell=>c.kind=1)<=cs.countP (λc:Cell=>c.kind=1):=(List.take_sublist _ _).countP_le;rw[ht.used,e1,<-hp.n] at e2;simpa using e2
  refine dM ⟨by omega,by omega⟩ λrb We=>?_;subst We;rw[ao];refine gI sB hy ?_;apply ws;intros;rw[e5];apply dh<;>intro g2
  ·have k1:y.kind=1:=by simpa using g2
   rw[ai k1] at hut;apply ws;subst LS;have oC:m' y.key=none:=by
    cases hm:m' y.key with
    |none=>rfl
    |some v=>
     obtain⟨j,z,q1,q2,q3,q4,q5⟩:=hp.toX _ _ hm;have:=ht.one j i z y q2 hy q3 k1 q4;omega
   refine IM Kx (λi2 z hz hk he=>?_) (λp Qq=>?_)
   ·have:=Kx.is i2 z hz hk;rw[he,oC] at this;cases this
   apply ws;obtain⟨z,d,hz,ZS,_⟩:=Qq.place;have A0:=(aw.1 hz).1;refine sX ⟨by omega,by omega⟩ ?_;rw[ao];apply ws;refine qP sB A0 (yZ _) ?_;have MO:=Kx.put (v:=y.at_) Qq hz (by omega);have hz2:z.kind≠2:=λhh=>by
    have:=List.countP_eq_zero.1 Kx.left z (cb hz);simp[hh] at this
   rw[ag hz2] at MO;have ey:(⟨y.key,y.at_,1⟩:Cell)=y:=by rw[<-k1]
   rw[ey] at MO;refine T.drop λw6 h6=>⟨⟨i+1,vR.set p y,wE m' y.key (some y.at_),u'+1,cf,iP,MO,⟨?_,?_,?_⟩,rfl,h6⟩,by show cs.length-((i+1:Nat):Int).toNat<cs.length-(i:Int).toNat;omega⟩
   ·intro k v hk;unfold wE at hk;by_cases ek:k=y.key
    ·rw[ai ek] at hk;cases hk;exact⟨i,y,by omega,hy,k1,ek.symm,rfl⟩
    ·rw[ag ek] at hk;obtain⟨j,z,q1,q2⟩:=hp.toX k v hk;exact⟨j,z,by omega,q2⟩
   ·intro j z hj UA ZS;unfold wE;by_cases ek:z.key=y.key
    ·have:=ht.one j i z y UA hy ZS k1 ek;subst this;rw[hy] at UA;cases UA
     rw[ai rfl]
    ·rw[ag ek];refine hp.from_ j z ?_ UA ZS;by_cases ej:j=i
     ·subst ej;rw[hy] at UA;cases UA;exact aT rfl ek
     ·omega
   ·rw[yh cs _ hy,hp.n];simp[k1]
  ·have k1: ¬y.kind=1:=by simpa using g2
   refine T.drop λw6 h6=>⟨⟨i+1,vR,m',u',cf,LS,Kx,⟨?_,?_,?_⟩,rfl,h6⟩,by show cs.length-((i+1:Nat):Int).toNat<cs.length-(i:Int).toNat;omega⟩
   ·intro k v hk;obtain⟨j,z,q1,q2⟩:=hp.toX k v hk;exact⟨j,z,by omega,q2⟩
   ·intro j z hj UA ZS;refine hp.from_ j z ?_ UA ZS;by_cases ej:j=i
    ·subst ej;rw[hy] at UA;cases UA;exact aT ZS k1
    ·omega
   ·rw[yh cs _ hy,hp.n];simp[k1]
 ·have he:i=cs.length:=by omega
  subst he;obtain⟨rfl,rfl⟩:=hp.same ht;subst LS;have:=h (ah r) vR.length vR Kx (by omega);exact λw hs=>this w ((hs.perm (bU.swap _ _ _)).focus (k:=2) rfl).drop
def J7{b:OA}{c u lf k:Nat}{v:Int}{cs:List Cell}{m:Nat->Option Int}{R:LH}{r1:Nat}{g:LV->LH}[i:Lc (Sep.pt r1) R (nm k) g](ht:TI cs m u lf)(hr:4* (u+lf+1)<=3* cs.length)(hk:m k=none)
 (h:∀b' c' vR LN,TI vR (wE m k (some v)) (u+1) LN->T W (Sep.pt t [.l b' vR.length c',.i ((u+1:Nat):Int),.i (LN:Int)]::own b' vR.length c' 4 (vR.flatMap nI)::R) (K (.b true))):
 T W (Sep.pt t [.l b cs.length c,.i (u:Int),.i (lf:Int)]::own b cs.length c 4 (cs.flatMap nI)::R) (dT.j1 K r1 (ah t) v):=by
 unfold dT.j1;apply ws;refine IM ht (λi2 z hz hkk he=>?_) (λp Qq=>?_)
 ·have:=ht.is i2 z hz hkk;rw[he,hk] at this;cases this
 obtain⟨z,d,hz,ZS,_⟩:=Qq.place;have A0:=(aw.1 hz).1;have hN:=ht.pow.le;apply ws;refine dM ⟨by omega,by omega⟩ λr hr=>?_;subst hr;rw[ao];simp only[gN,aC];refine D5 (r:=r) (j:=3) sB hz rfl ?_;have MO:=ht.put (v:=v) Qq hz hr;have abB:∀LN:Nat,LN=(if z.kind=2 then lf-1 else lf)->T W (Sep.pt t [.l (ah r) cs.length c,.i (u:Int),.i (LN:Int)]::own (ah r) cs.length c 4 (cs.flatMap nI)::R) (dT.j2 K (ah t) r1 (p:Int) v):=by
  intro LN hlf;unfold dT.j2;apply ws;refine sX ⟨by omega,by omega⟩ ?_;rw[ao];refine dD rfl ?_;show T W _ (jC _ (nI ⟨k,v,1⟩) _);refine qP sB A0 (yZ _) ?_;apply ws;have KB:=ht.room;rw[aW (by omega),show(u:Int)+1=((u+1:Nat):Int) by omega];have:=h (ah r) c (cs.set p ⟨k,v,1⟩) LN (by rw[hlf];exact MO);rw[iP] at this;exact this
 have KB:=ht.room;apply ws;apply dh<;>intro g2
 ·have k2:z.kind=2:=by simpa using g2
  have h1:1<=lf:=by
   rw[<-ht.left];exact List.countP_pos_iff.2 ⟨z,cb hz,by simpa using k2⟩
  apply ws;rw[aW (by omega),show(lf:Int) -1=((lf-1:Nat):Int) by omega];exact abB (lf-1) (by rw[ai k2])
 ·have k2: ¬z.kind=2:=by simpa using g2
  exact abB lf (by rw[ag k2])
def Pj{k:Nat}{v:Int}[i:Lc (oV t) L x f](hu:x.2<=1000)(hk:x.1 k=none)(h:T W (f (wE x.1 k (some v),x.2+1)) (K (.b true))):T W L (dT (ah t) (nm k) v K):=by
 refine RA (t:=t) λb c cs lf R ht hc=>?_;unfold dT;refine tS λr1=>gL rfl ?_;refine T.adN ?_;have hN:=ht.pow.le;have KB:=ht.room;have fin:∀b' c' vR LN,TI vR (wE x.1 k (some v)) (x.2+1) LN->T W (Sep.pt t [.l b' vR.length c',.i ((x.2+1:Nat):Int),.i (LN:Int)]::own b' vR.length c' 4 (vR.flatMap nI)::Sep.pt r1 (nm k)::R) (K (.b true)):=
  λb' c' vR LN Kx w hs=>hc _ _ _ _ _ _ _ Kx h w (hs.focus (k:=2) rfl).drop
 have ZU:aa.wrap ((x.2:Int)+lf)=(x.2:Int)+lf:=aW (by omega);have hw2:aa.wrap ((x.2:Int)+lf+1)=(x.2:Int)+lf+1:=aW (by omega);have hw3:aa.wrap (4* ((x.2:Int)+lf+1))=4* ((x.2:Int)+lf+1):=aW (by omega);have hw4:aa.wrap (3* (cs.length:Int))=3* (cs.length:Int):=aW (by omega);apply ws;rw[ZU,hw2,hw3,hw4];apply fV<;>intro g
 ·refine aai ht hu λb' c' vR Kx LS=>?_;apply ws;exact J7 (lf:=0) Kx (by omega) hk fin
 ·have:=g;exact J7 ht (by omega) hk fin
def YG(h:∀t,T W (oV t (λ_=>none,0)::L) (K (.p (ah t)))):T W L (vZ K):=by
 unfold vZ;refine H5 ⟨by decide,by decide,by decide,by decide⟩ λr=>?_;rw[show((8:Int).toNat)=8 from rfl,ru (g:=nI) (z:=⟨0,0,0⟩) (zs:=[.u 0,.u 0,.i 0,.int .u8 0]) rfl];apply ws;intros;rename_i r1;refine λw hs=>h r1 w ?_;exact St.qB (ah r,8,bn 8 ⟨0,0,0⟩,0) (St.and_intro (TI.new ⟨3,by decide,by decide,rfl⟩) (St.join hs))
end
section
variable {W:World} {L:LH} {K:VK} {X:WK} {α:Type} {r o:Nat} {pre post:LV} {g:α->LV} {e:Nat} {l:List α} {f:List α->LH}
def gZ{e:Nat}(h:T W (own none 0 0 e []::L) X):T W L X:=λw hs=>h w (hs.push (rG e))
def jm{b:OA}{n c bytes r1:Nat}{zero:LV}{x:α}{ys:LV}{f:HP->LH}{f1:LV->LH}{K:OA->Nat->Nat->WK}[i:ux b n c L e (l.flatMap g) f][j:Lc (Sep.pt r1) L ys f1](hy:ys=g x)(hg:(g x).length=e)(hz:zero.length=e)
 (hb:(n+1)* bytes<=140737488355328)(hm:n+1<=9223372036854775807)(h1:∀v∈g x,v.oneCell'=true)(h:∀b' c',T W (f (own b' (n+1) c' e ((l++[x]).flatMap g))) (K b' (n+1) c')):T W L (gY e bytes zero b n c (ah r1) 1 K):=by
 refine RP (ys:=ys) (by rw[hy];exact hg) hz hb (by rw[hy];exact h1) (λb' c'=>?_) hm;have:=h b' c';rw[fQ] at this;simpa [hy] using this
def EE{b:OA}{n c e i:Nat}{xs:LV}(hi:i<=n):∀h,own b n c e xs h->own b i c e (xs.take (i* e)) h:=λh=>by
 rintro⟨hl,h0|⟨r,sp,hb,u1,Bm,hp⟩⟩
 ·obtain⟨rfl,rfl,rfl⟩:=h0;have:i=0:=by omega
  subst this;exact⟨by simp,.inl ⟨rfl,rfl,rfl⟩⟩
 ·have hie:i* e<=n* e:=ie e hi;refine⟨by rw[aD];omega,.inr ⟨r,xs.drop (i* e)++sp,hb,by omega,?_,?_⟩⟩
  ·rw[au,aS,Bm,hl,Nat.sub_mul,Nat.sub_mul];have:n* e<=c* e:=ie e u1;omega
  ·rw[<-aH,dj];exact hp
def Hz{g:α->LV}(hg:∀x,(g x).length=e):∀(l:List α)(i:Nat),(l.flatMap g).take (i* e)=(l.take i).flatMap g
 |[],i=>by simp
 |x::l,0=>by simp
 |x::l,i+1=>by
  rw[iB,List.take_succ_cons,iB,<-Hz hg l i,show(i+1)* e=(g x).length+i* e by rw[hg,lO];omega,List.take_length_add_append]
def Au{b:OA}{n c i:Nat}{f:HP->LH}[j:ux b n c L e (l.flatMap g) f](hg:∀x,(g x).length=e)(hi:i<=n)(h:T W (f (own b i c e ((l.take i).flatMap g))) X):T W L X:=λw hs=>by
 obtain⟨k,hk,e1⟩:=j.at_;refine h w ?_;rw[e1,<-Hz hg];exact St.rA ((hs.focus hk).mono (EE hi)) hk
def zD{b:OA}{n c i:Nat}{K:OA->Nat->Nat->WK}(hi:i<=c)(h:T W L (K b i c)):T W L (rY b n c e none (some (i:Int)) K):=by
 unfold rY;refine dD ⟨by omega,by omega⟩ ?_;dsimp only;rw[XT,ao];exact h
def qJ{b:OA}{n c:Nat}{f:HP->LH}{xs:LV}[j:ux b n c L e xs f](h:n<=c->xs.length=n* e->T W L X):T W L X:=λw hs=>by
 obtain⟨k,hk,_⟩:=j.at_;obtain⟨hl,h0|⟨r,sp,hb,u1,_⟩⟩:=hs.nY hk
 ·exact h (by omega) hl w hs
 ·exact h u1 hl w hs
end
abbrev nN:=Int×Int
def oY(p:nN):LV:=[.i p.1,.i p.2]
def nX(p:nN):(oY p).length=2:=rfl
instance{p:nN}:Ln (oY p) 2:=⟨rfl⟩
instance{p:nN}:Gt (oY p) 1 (.i p.2):=⟨rfl⟩
def ug(p:nN):∀v∈oY p,v.oneCell'=true:=λv h=>by simp[oY] at h;rcases h with rfl|rfl<;>rfl
instance{x1 x2:Value}{p:nN}:Wr [x1,x2] 0 (oY p) (oY p):=⟨rfl,aG _,ug p⟩
def pos(s:Int):List nN->Nat
 |[]=>0
 |p::l=>if p.1<s then pos s l+1 else 0
def Iv(s:Int):∀l:List nN,pos s l<=l.length
 |[]=>aG _
 |p::l=>by unfold pos;split<;>simp;exact Iv s l
def sG(l:List nN):Prop:=l.Pairwise λa b=>a.1<b.1
def Mz(s:Int):∀(l:List nN)(i:Nat),i<=l.length->(∀(j:Nat)(p:nN),j<i->l[j]?=some p->p.1<s)->(∀(j:Nat)(p:nN),i<=j->l[j]?=some p->s<=p.1)->i=pos s l
 |[],i,hi,_,_=>by simp at hi;subst hi;rfl
 |q::l,0,hi,h1,h2=>by
  unfold pos;rw[ag];have:=h2 0 q (aG _) rfl;omega
 |q::l,i+1,hi,h1,h2=>by
  unfold pos;rw[ai (h1 0 q (by omega) rfl),<-Mz s l i (by simpa using hi) (λj p hj hp=>h1 (j+1) p (by omega) (by simpa using hp)) (λj p hj hp=>h2 (j+1) p (by omega) (by simpa using hp))]
def half{i j:Nat}(h:i+j<4611686018427387904):aa.wrap (shr .u64 (IntKind.u64.wrap (aa.wrap ((i:Int)+j))) 1)=(((i+j)/2:Nat):Int):=by
 have e0:aa.wrap ((i:Int)+j)=((i+j:Nat):Int):=by rw[aW (by omega)];omega
 rw[e0,rX (by omega)];unfold shr;have e:min (1:Int).toNat IntKind.u64.bits=1:=rfl;rw[e,F3 _ (by decide)];rw[aW (by omega)];omega
def Be(s:Int)(l:List nN)(i:Nat):Bool:=match l[i]? with|some p=>decide (s<=p.1)|none=>true
section
variable {W:World} {L:LH} {K:VK} {X:WK} {r o:Nat} {l:List nN}
def T8{n:Nat}{v:Value}(P:Nat->Bool)(hn:n<1099511627776)(Yd:∀i j,i<=j->P i=true->P j=true)
 (acm:∀(i:Nat)(K:VK),i<n->T W L (K (.b (P i)))->T W L (xN [(N.fE,fE.u)] v [.i (i:Int)] K))
 (h:∀i:Nat,i<=n->(∀j,j<i->P j=false)->(∀j,i<=j->j<n->P j=true)->T W L (K (.i (i:Int)))):T W L (u5 (n:Int) v K):=by
 unfold u5;intro w hs;refine⟨λvs w=>∃i j:Nat,i<=j/\j<=n/\(∀k,k<i->P k=false)/\(∀k,j<=k->k<n->P k=true)/\vs=[.i 0,.i (i:Int),.i (j:Int)]/\St W w L,
  λvs _=>match vs with|[_,.int _ i,.int _ j]=>j.toNat-i.toNat|_=>0,⟨0,n,aE _,aG _,(λk hk=>by omega),(λk h1 h2=>by omega),rfl,hs⟩,?_⟩
 rintro n2 n3 n4 w2 ⟨i,j,LW,hjn,hi,hj,e,hs⟩;cases e
 refine T.at ?_ hs;rw[half (by omega)];apply fV<;>intro g
 ·have cf:i<j:=by omega
  refine dD (by decide) (acm _ _ (by omega) ?_);refine u0 (dh (λg2=>?_) (λg2=>?_))
  ·have p0:P ((i+j)/2)=false:=by simpa using g2
   have e1:aa.wrap ((((i+j)/2:Nat):Int)+1)=(((i+j)/2+1:Nat):Int):=by rw[aW (by omega)];omega
   rw[e1];refine λw3 h3=>⟨⟨(i+j)/2+1,j,by omega,hjn,λk hk=>?_,hj,rfl,h3⟩,by show(j:Int).toNat-(((i+j)/2+1:Nat):Int).toNat<(j:Int).toNat-(i:Int).toNat;omega⟩;cases hp:P k with
   |false=>rfl
   |true=>rw[Yd k ((i+j)/2) (by omega) hp] at p0;cases p0
  ·have p1:P ((i+j)/2)=true:=by simpa using g2
   refine λw3 h3=>⟨⟨i,(i+j)/2,by omega,by omega,hi,λk hk _=>Yd _ k hk p1,rfl,h3⟩,by show(((i+j)/2:Nat):Int).toNat-(i:Int).toNat<(j:Int).toNat-(i:Int).toNat;omega⟩
 ·have:i=j:=by omega
  subst this;exact h i hjn hi hj
def Dg{s:Int}{cs:LV}{b:OA}{c:Nat}{f:LV->LH}{g:HP->LH}(hv:cs[o]?=some (.l b l.length c))(hr:sG l)(hl:l.length<1099511627776)[i:Lc (Sep.pt r) L cs f][j:ux b l.length c L 2 (l.flatMap oY) g](h:T W L (K (.i (pos s l:Int)))):T W L (lE (some ⟨r,o,none⟩) s K):=by
 unfold lE
 repeat' first|apply ws;intros|apply wb|refine m9 hv ?_
 rename_i r1 r2;refine T8 (Be s l) hl ?_ ?_ ?_
 ·intro i j LW hi;unfold Be at *;by_cases hj:j<l.length
  ·have uY:i<l.length:=by omega
   rw[aj uY] at hi;rw[aj hj];simp only[decide_eq_true_eq] at *;by_cases e:i=j
   ·subst e;exact hi
   ·have:=pT.1 hr i j uY hj (by omega);omega
  ·rw[pE (by omega)]
 ·intro i K hi hK;show T W _ (fE (i:Int) (ad r1 0) (ad r2 0) K);unfold fE
  repeat' first|apply ws|apply wb|refine m9 hv ?_
  refine dM ⟨by omega,by omega⟩ λrb hb=>?_;subst hb;rw[ao];refine D6 nX (aj hi) rfl ?_;apply ws;refine T.fin (T.dp hK) ?_;unfold Be;rw[aj hi]
 ·intro i hi h1 h2;apply ws;have e:i=pos s l:=Mz s l i hi (λj p hj hp=>by
   have:=h1 j hj
   unfold Be at this
   rw[hp] at this
   simpa using this) (λj p hj hp=>by
   have:=h2 j hj (aw.1 hp).1
   unfold Be at this
   rw[hp] at this
   simpa using this)
  subst e;exact T.drop (T.drop h)
def Oi{s:Int}:∀{l:List nN},(∀p∈l,p.1<s)->pos s l=l.length
 |[],_=>rfl
 |p::l,h=>by unfold pos;rw[ai (h p (by simp)),Oi λq hq=>h q (by simp[hq])];rfl
def H3{r o:Nat}{cs:LV}{v:Value}{u:Value}{f:LV->LH}[i:Lc (Sep.pt r) L cs f](hv:cs[o]?=some u)(h1:v.oneCell'=true)(h:T W (f (cs.set o v)) X):T W L (st ⟨r,o,none⟩ v X):=Cl (aw.1 hv).1 h1 h
def tq{cs:LV}{o:Nat}{u v:Value}(hv:cs[o]?=some u):(cs.set o v)[o]?=some v:=by rw[dc,ai rfl,ai (aw.1 hv).1]
def yi{b:OA}{n c i e:Nat}{K:OA->Nat->Nat->WK}(hi:i<=n)(h:T W L (K (ym b c i e) (n-i) (c-i))):T W L (rY b n c e (some (i:Int)) none K):=by
 unfold rY;refine dD ⟨by omega,by omega⟩ ?_;rw[ao];exact h
def Pf(w:World)(e:Nat)(b:OA):Src w 0 e b []:=⟨by simp,λa ha j v hj=>by simp at hj⟩
def abp{e n m:Nat}{b b':OA}{K:Nat->WK}(hm:min m n=0)(h:T W L (K 0)):T W L (TC e b n b' m K):=λw hs=>by
 unfold TC;rw[hm];exact⟨[],Pf w e b',λ_=>rfl,λ_=>h w hs,λa _=>⟨⟨by simp,λj hj=>by simp at hj⟩,h w hs⟩⟩
def Ze{b b':OA}{n c e bytes:Nat}{zero:LV}{K:OA->Nat->Nat->WK}{xs:LV}{f:HP->LH}[i:ux b n c L e xs f](h:T W L (K b n c)):T W L (gY e bytes zero b n c b' 0 K):=
 qJ (b:=b) λu1 _ w hs=>⟨[],Pf w e b',λ_=>rfl,λ_=>⟨λa _=>⟨⟨by simp,λj hj=>by simp at hj⟩,h w hs⟩,λ_=>h w hs⟩,λcf=>by omega⟩
section
variable {R:LH} {cs:LV} {b:OA} {c:Nat}
def ZB{s a:Int}(hv:cs[o]?=some (.l b l.length c))(hr:sG l)(hl:l.length<1099511627)(hs:∀p∈l,p.1<s)
 (h:∀b' c',T W (Sep.pt r (cs.set o (.l b' (l.length+1) c'))::own b' (l.length+1) c' 2 ((l++[(s,a)]).flatMap oY)::R) (K (.b true))):
 T W (Sep.pt r cs::own b l.length c 2 (l.flatMap oY)::R) (jd (some ⟨r,o,none⟩) s a K):=by
 unfold jd;refine yk ?_;refine Dg hv hr (by omega) ?_;rw[Oi hs]
 repeat' first|apply ws|apply wb|refine m9 hv ?_
 refine gL (by simp) ?_;unfold jd.j1
 repeat' first|apply ws;intros|apply wb|refine m9 hv ?_
 refine jm (x:=((0:Int),(0:Int))) rfl rfl rfl (by omega) (by omega) (ug _) λb' c'=>?_
 repeat' first|apply ws|apply wb|first|refine H3 hv rfl ?_|refine m9 (tq hv) ?_
 have e1:aa.wrap ((l.length:Int)+1)=((l.length+1:Nat):Int):=by rw[aW (by omega)];omega
 rw[e1];refine yi (aG _) ?_
 repeat' first|apply ws|apply wb|refine m9 (tq hv) ?_
 refine yi (by omega) ?_;refine abp (by omega) ?_
 repeat' first|apply ws|apply wb|first|refine yj (tq hv) ?_|refine m9 (tq hv) ?_
 refine qJ (b:=b') λu1 hlen=>?_;refine dM ⟨by omega,by omega⟩ λrb hb=>?_;subst hb;rw[ao];refine dD rfl ?_;show T W _ (jC _ (oY (s,a)) _);refine qP nX (by simp) (ug _) ?_;have:=h (ah rb) c';rw[List.set_append_right _ _ (aG _)];simpa using T.drop this
def VE{s a:Int}{l0:List nN}(hv:cs[o]?=some (.l b l.length c))(hr:sG l)(hl:l.length<1099511627)(hs:l=l0++[(s,a)])
 (h:∀b' c',T W (Sep.pt r (cs.set o (.l b' l0.length c'))::own b' l0.length c' 2 (l0.flatMap oY)::R) (K (.b true))):
 T W (Sep.pt r cs::own b l.length c 2 (l.flatMap oY)::R) (ji (some ⟨r,o,none⟩) s K):=by
 have hlen:l.length=l0.length+1:=by rw[hs];simp
 have hp:pos s l=l0.length:=by
  refine(Mz s l l0.length (by omega) (λj p hj Yc=>?_) (λj p hj Yc=>?_)).symm
  ·have cf:=(aw.1 Yc).1;have:=pT.1 hr j l0.length cf (by omega) hj;rw[aj cf] at Yc;rw[bE.inj Yc] at this;have e:l[l0.length]=(s,a):=by simp[hs]
   rw[e] at this;exact this
  ·have cf:=(aw.1 Yc).1;have:j=l0.length:=by omega
   subst this;rw[hs] at Yc;simp at Yc;rw[<-Yc];exact sH _
 have hg:l[l0.length]?=some (s,a):=by rw[hs];simp
 unfold ji;refine yk ?_;refine Dg hv hr (by omega) ?_;rw[hp]
 repeat' first|apply ws|apply wb|refine m9 hv ?_
 refine gL (by simp;omega) ?_
 repeat' first|apply ws|apply wb|refine m9 hv ?_
 refine dM ⟨by omega,by omega⟩ λrb hb=>?_;subst hb;rw[ao];refine D6 nX hg rfl ?_;apply ws;unfold ji.j1;refine gL (by simp) ?_
 repeat' first|apply ws|apply wb|refine m9 hv ?_
 refine qJ (b:=ah rb) λu1 zq=>?_;refine zD (by omega) ?_
 repeat' first|apply ws|apply wb|refine m9 hv ?_
 have e1:aa.wrap ((l0.length:Int)+1)=((l0.length+1:Nat):Int):=by rw[aW (by omega)];omega
 rw[e1];refine yi (by omega) ?_;rw[hlen] at hv;rw[hlen,lu];have et:l.take l0.length=l0:=by rw[hs];simp
 refine Au (b:=ah rb) (i:=l0.length) nX (by omega) ?_;rw[et];refine Ze (b:=ah rb) ?_
 repeat' first|apply ws|apply wb|first|refine yj hv ?_|refine H3 hv rfl ?_
 exact h _ _
def uZ(toX:Int)(l:List nN):Nat:=if toX=0 then l.length else match l[pos toX l]? with|some p=>if p.1=toX then pos toX l+1 else pos toX l|none=>pos toX l
def U1(toX:Int)(l:List nN):uZ toX l<=l.length:=by
 unfold uZ;have:=Iv toX l;split
 ·exact aG _
 ·split
  ·rename_i p hp;have:=(aw.1 hp).1;split<;>omega
  ·omega
def qo(from_ toX:Int)(l:List nN):List nN:=(l.drop (pos from_ l)).take (uZ toX l-pos from_ l)
def Vm{m out:List nN}{i:Nat}(hl:m.length=out.length)(hm:∀j,j<out.length->m[j]?=if j<i\/out.length-1-j<i then out[out.length-1-j]? else out[j]?)(hi:out.length<=2* i+1):m=out.reverse:=by
 apply qk;intro j;by_cases hj:j<out.length
 ·rw[hm j hj,List.getElem?_reverse hj];by_cases h:j<i\/out.length-1-j<i
  ·rw[ai h]
  ·rw[ag h];congr 1;omega
 ·rw[pE (by omega),pE (by simpa using hj)]
def Su{from_ toX:Int}{yY:Bool}{f:LV->LH}{g:HP->LH}(hv:cs[o]?=some (.l b l.length c))(hr:sG l)(hl:l.length<100000)[i:Lc (Sep.pt r) L cs f][j:ux b l.length c L 2 (l.flatMap oY) g]
 (h:∀b' c' out,out=(if yY then(qo from_ toX l).reverse else qo from_ toX l)->T W (own b' out.length c' 2 (out.flatMap oY)::L) (K (.l b' out.length c'))):T W L (fU (some ⟨r,o,none⟩) from_ toX yY K):=by
 unfold fU;refine yk ?_
 repeat' first|apply ws|apply wb|refine m9 hv ?_
 refine Dg hv hr (by omega) ?_
 repeat' first|apply ws|apply wb|refine yj hv ?_
 have j1:T W L (fU.j1 K (pos from_ l:Int) (some ⟨r,o,none⟩) yY (uZ toX l:Int)):=by
  have hul:=U1 toX l;unfold fU.j1;refine gZ (e:=2) ?_;intro w hs;refine⟨λvs w=>∃(k:Nat)(out:List nN)(b':OA)(c':Nat),pos from_ l<=k/\(k<=uZ toX l\/k=pos from_ l)/\out=(l.drop (pos from_ l)).take (k-pos from_ l)/\out.length=k-pos from_ l/\
   vs=[.l none 0 0,.i (k:Int),.i (uZ toX l:Int),.l b' out.length c']/\St W w (own b' out.length c' 2 (out.flatMap oY)::L),
   λvs _=>match vs with|[_,.int _ k,.int _ n,_]=>n.toNat-k.toNat|_=>0,⟨pos from_ l,[],none,0,aG _,.inr rfl,by simp,by simp,rfl,hs⟩,?_⟩
  rintro qI oW re n5 n6 b' qQ c' w2 ⟨k,out,b0,c0,UI,rq,xY,hol,e,hs⟩;cases e
  refine T.at ?_ hs;have Q5:=Iv from_ l;apply fV<;>intro g1
  ·have cf:k<uZ toX l:=by omega
   have e5:=nL k;have hg:=aj (show k<l.length by omega);generalize l[k]=p at hg
   repeat' first|apply ws|apply wb|refine m9 hv ?_
   refine dM ⟨by omega,by omega⟩ λrb hb=>?_;subst hb;rw[ao,e5];refine gI nX hg ?_;apply ws;intros;refine jm (x:=p) rfl rfl rfl (by omega) (by omega) (ug _) λb2 c2=>?_;refine T.drop λw3 h3=>⟨⟨k+1,out++[p],b2,c2,by omega,.inl cf,?_,by simp;omega,by simp,by simpa using h3⟩,by show(uZ toX l:Int).toNat-((k+1:Nat):Int).toNat<(uZ toX l:Int).toNat-(k:Int).toNat;omega⟩;rw[show k+1-pos from_ l=(k-pos from_ l)+1 by omega,a8,<-xY,rW,show pos from_ l+(k-pos from_ l)=k by omega,hg]
   rfl
  ·have iM:uZ toX l<=k:=by omega
   have abY:out=qo from_ toX l:=by
    rw[xY];unfold qo;rcases rq with h2|h2
    ·rw[show k=uZ toX l by omega]
    ·rw[h2,lu,show uZ toX l-pos from_ l=0 by omega]
   apply dh<;>intro g2
   ·subst g2;intro w2 hs;refine⟨λvs w=>∃(i:Nat)(m:List nN),i<=out.length/\m.length=out.length/\(∀j,j<out.length->m[j]?=if j<i\/out.length-1-j<i then out[out.length-1-j]? else out[j]?)/\
     vs=[.l none 0 0,.l b' out.length c',.i (i:Int),.i ((out.length:Int) -1-i)]/\St W w (own b' out.length c' 2 (m.flatMap oY)::L),
     λvs _=>match vs with|[_,_,.int _ k,_]=>out.length-k.toNat|_=>0,⟨0,out,aE _,rfl,λj hj=>by simp,by rw[aW (by omega)];simp,hs⟩,?_⟩
    rintro Jp Jo Ig Uw Pt Vd n7 n8 w5 ⟨i,m,hi,IF,hm,e,hs⟩;cases e
    refine T.at ?_ hs;apply fV<;>intro g3
    ·have cf:(i:Int)<(out.length:Int) -1-i:=g3;obtain⟨k2,ad9⟩:∃k2:Nat,k2=out.length-1-i:=⟨_,rfl⟩;have ek:(out.length:Int) -1-i=(k2:Int):=by omega
     have e5:=nL i;have e6:aa.wrap ((k2:Int) -1)=(out.length:Int) -1-((i+1:Nat):Int):=by rw[aW (by omega)];omega
     have g4:=aj (show i<m.length by omega);have g5:=aj (show k2<m.length by omega);have g6:=hm i (by omega);have g7:=hm k2 (by omega);rw[ag (by omega)] at g6;rw[ag (by omega)] at g7;generalize m[i]=x at g4;generalize m[k2]=y at g5;rw[ek,e5,e6];apply ws;refine dM ⟨by omega,by omega⟩ λrb hb=>?_;subst hb;rw[ao];refine gI nX g5 ?_;refine sX ⟨by omega,by omega⟩ ?_;rw[ao];refine gI nX g4 ?_;refine sX ⟨by omega,by omega⟩ ?_;rw[ao];refine dD rfl (qP nX (by omega) (ug _) ?_);refine sX ⟨by omega,by omega⟩ ?_;rw[ao];refine dD rfl (qP nX (by simp;omega) (ug _) ?_);refine λw3 h3=>⟨⟨i+1,(m.set i y).set k2 x,by omega,by simp[IF],λj hj=>?_,rfl,h3⟩,by show out.length-((i+1:Nat):Int).toNat<out.length-(i:Int).toNat;omega⟩;rw[dc,dc];by_cases q1:k2=j
     ·subst q1;rw[ai rfl,ai (by simp;omega),ai (by omega),show out.length-1-k2=i by omega,<-g6,g4]
     ·rw[ag q1];by_cases q2:i=j
      ·subst q2;rw[ai rfl,ai (by omega),ai (by omega),<-ad9,<-g7,g5]
      ·rw[ag q2,hm j hj];by_cases q3:j<i\/out.length-1-j<i
       ·rw[ai q3,ai (by omega)]
       ·rw[ag q3,ag (by omega)]
    ·have ahq: ¬(i:Int)<(out.length:Int) -1-i:=g3;have:=Vm IF hm (by omega);subst this;have:=h b' c' out.reverse (by rw[ai rfl,abY]);rw[jb] at this;exact this
   ·subst g2;exact h b' c' out (by rw[ag (by decide),abY])
 apply dh<;>intro g1
 ·have UB:toX≠0:=by simpa using g1
  refine Dg hv hr (by omega) ?_;have hpt:=Iv toX l
  repeat' first|apply ws|apply wb|refine m9 hv ?_
  unfold uZ at j1;rw[ag UB] at j1;apply fV<;>intro g2
  ·have cf:pos toX l<l.length:=by omega
   have hg:=aj cf;generalize l[pos toX l]=p at hg;have e5:aa.wrap ((pos toX l:Int)+1)=((pos toX l+1:Nat):Int):=by rw[aW (by omega)];omega
   rw[hg] at j1;dsimp only at j1
   repeat' first|apply ws|apply wb|refine m9 hv ?_
   rw[e5];refine dM ⟨by omega,by omega⟩ λrb hb=>?_;subst hb;rw[ao];refine D6 nX hg rfl ?_;apply ws;apply dh<;>intro g3
   ·rw[ai (by simpa using g3)] at j1;exact j1
   ·rw[ag (by simpa using g3)] at j1;exact j1
  ·have iM:l.length<=pos toX l:=by omega
   rw[pE iM] at j1;exact j1
 ·have UB:toX=0:=by simpa using g1
  unfold uZ at j1;rw[ai UB] at j1;exact j1
end
end
structure Item where
 due:Int
 ay:Int
 id:Nat
def gA(x:Item):LV:=[.i x.due,.i x.ay]++nm x.id
def iI(x:Item):(gA x).length=4:=rfl
instance{x:Item}:Ln (gA x) 4:=⟨rfl⟩
instance{x:Item}:Gt (gA x) 0 (.i x.due):=⟨rfl⟩
instance{x:Item}:Gt (gA x) 1 (.i x.ay):=⟨rfl⟩
def qe(x:Item):∀v∈gA x,v.oneCell'=true:=oL (λv h=>by simp at h;rcases h with rfl|rfl<;>rfl) (l6 _)
instance{x1 x2 x3 x4:Value}{p:Item}:Wr [x1,x2,x3,x4] 0 (gA p) (gA p):=⟨rfl,aG _,qe p⟩
instance{p:Item}:Sub (gA p) 0 4 (gA p):=⟨rfl,λj v h=>by rw[aC];exact h⟩
def bf(a b:Item):Prop:=a.due<b.due\/a.due=b.due/\a.ay<b.ay
instance(a b:Item):Decidable (bf a b):=by unfold bf;infer_instance
def O8{a b:Item}(h:bf a b): ¬bf b a:=by unfold bf at *;omega
def Ll{a b c:Item}(h:bf a b)(g:bf b c):bf a c:=by unfold bf at *;omega
def EN{a b c:Item}(h: ¬bf a b)(g: ¬bf b c): ¬bf a c:=by unfold bf at *;omega
def SA{a b c:Item}(h: ¬bf a c)(g:bf b c): ¬bf a b:=λhh=>h (Ll hh g)
def Nn(a:Item): ¬bf a a:=by unfold bf;omega
def par(j:Nat):Nat:=(j-1)/2
def NB(h:List Item)(i j:Nat):Prop:=∀x y,h[i]?=some x->h[j]?=some y-> ¬bf x y
def u3(h:List Item):Prop:=∀j,0<j->NB h j (par j)
def HU(h:List Item)(i:Nat):Prop:=(∀j,0<j->j≠i->NB h j (par j))/\(∀j,0<j->par j=i->0<i->NB h j (par i))
def HD(h:List Item)(i:Nat):Prop:=(∀j,0<j->par j≠i->NB h j (par j))/\(∀j,0<j->par j=i->0<i->NB h j (par i))
def Kids(h:List Item)(i:Nat):Prop:=∀j,0<j->par j=i->NB h j i
def u3.hu{h:List Item}(hh:u3 h)(i:Nat):HU h i:=by
 refine⟨λj h0 _=>hh j h0,λj h0 hp hi x y hx hy=>?_⟩;have cf:j<h.length:=(aw.1 hx).1;have Qp:i<h.length:=by unfold par at hp;omega
 have a1:=hh j h0 x _ hx (by rw[hp];exact aj Qp);exact EN a1 (hh i hi _ y (aj Qp) hy)
def HU.heap{h:List Item}{i:Nat}(hu:HU h i)(hx:i=0\/NB h i (par i)):u3 h:=λj h0=>by
 by_cases e:j=i
 ·subst e;rcases hx with hx|hx
  ·omega
  ·exact hx
 ·exact hu.1 j h0 e
def HD.heap{h:List Item}{i:Nat}(hd:HD h i)(hk:Kids h i):u3 h:=λj h0=>by
 by_cases e:par j=i
 ·rw[e];exact hk j h0 e
 ·exact hd.1 j h0 e
def U8(h:List Item)(i k:Nat)(x y:Item):List Item:=(h.set i y).set k x
def NV(h:List Item)(i k:Nat)(x y:Item):(U8 h i k x y).length=h.length:=by simp[U8]
section
variable {h:List Item} {i k:Nat} {x y:Item}
def NW(hx:h[i]?=some x)(hy:h[k]?=some y)(SY:i≠k)(j:Nat):(U8 h i k x y)[j]?=if j=i then some y else if j=k then some x else h[j]?:=by
 have l1:=(aw.1 hx).1;have l2:=(aw.1 hy).1;unfold U8;rw[dc,dc];by_cases e1:k=j
 ·subst e1;rw[ai rfl,ai (by simpa using l2),ag (by omega),ai rfl]
 ·rw[ag e1];by_cases e2:i=j
  ·subst e2;rw[ai rfl,ai l1,ai rfl]
  ·rw[ag e2,ag (by omega),ag (by omega)]
def yM:∀{h:List Item} {i:Nat} {x y:Item},h[i]?=some x->(x::h.set i y).Perm (y::h)
 |[],i,x,y,hx=>by simp at hx
 |a::h,0,x,y,hx=>by simp at hx;subst hx;exact bU.swap _ _ _
 |a::h,i+1,x,y,hx=>by
  have ih:=yM (y:=y) (show h[i]?=some x by simpa using hx);rw[mV];exact(bU.swap _ _ _).trans ((ih.cons a).trans (bU.swap _ _ _))
def JN(hx:h[i]?=some x)(hy:h[k]?=some y)(SY:i≠k):(U8 h i k x y).Perm h:=by
 have h1:=yM (y:=y) hx;have hy2:(h.set i y)[k]?=some y:=by rw[dc,ag SY];exact hy
 have h2:=yM (y:=x) hy2;exact(List.perm_cons y).1 (h2.trans h1)
def HU.step(hu:HU h i)(hi:0<i)(hx:h[i]?=some x)(hy:h[par i]?=some y)(hb:bf x y):HU (U8 h i (par i) x y) (par i):=by
 have SY:i≠par i:=by unfold par;omega
 have g:=NW hx hy SY
 constructor
 ·intro j h0 hj a b ha qK;rw[g] at ha qK;by_cases e1:j=i
  ·subst e1;rw[ai rfl] at ha;cases ha
   rw[ag (λh=>SY h.symm),ai rfl] at qK;cases qK
   exact O8 hb
  ·rw[ag e1,ag hj] at ha;by_cases e2:par j=i
   ·rw[ai e2] at qK;cases qK
    exact hu.2 j h0 e2 hi a y ha hy
   ·rw[ag e2] at qK;by_cases e3:par j=par i
    ·rw[ai e3] at qK;cases qK
     exact SA (hu.1 j h0 e1 a y ha (by rw[e3];exact hy)) hb
    ·rw[ag e3] at qK;exact hu.1 j h0 e1 a b ha qK
 ·intro j h0 hp LO a b ha qK;have n1:par (par i)≠i:=by unfold par;omega
  have n2:par (par i)≠par i:=by unfold par at *;omega
  rw[g] at ha qK;rw[ag n1,ag n2] at qK;have top:=hu.1 (par i) LO (λh=>SY h.symm) y b hy qK;by_cases e1:j=i
  ·subst e1;rw[ai rfl] at ha;cases ha
   exact top
  ·have n3:j≠par i:=by intro h;rw[h] at hp;exact n2 hp
   rw[ag e1,ag n3] at ha;exact EN (hu.1 j h0 e1 a y ha (by rw[hp];exact hy)) top
def HD.step(hd:HD h i)(hk:par k=i)(h0k:0<k)(hx:h[i]?=some x)(hy:h[k]?=some y)(hb:bf y x)(zf:∀j,0<j->par j=i->NB h j k):HD (U8 h i k x y) k:=by
 have SY:i≠k:=by intro h;unfold par at hk;omega
 have g:=NW hx hy SY
 constructor
 ·intro j h0 hj a b ha qK;rw[g] at ha qK;by_cases e1:j=i
  ·subst e1;rw[ai rfl] at ha;cases ha
   have n1:par j≠j:=by unfold par;omega
   rw[ag n1,ag hj] at qK;exact hd.2 k h0k hk h0 y b hy qK
  ·rw[ag e1] at ha;by_cases e2:j=k
   ·subst e2;rw[ai rfl] at ha;cases ha
    rw[ai hk] at qK;cases qK
    exact O8 hb
   ·rw[ag e2] at ha;by_cases e3:par j=i
    ·rw[ai e3] at qK;cases qK
     exact zf j h0 e3 a y ha hy
    ·rw[ag e3,ag hj] at qK;exact hd.1 j h0 e3 a b ha qK
 ·intro j h0 hp hk0 a b ha qK;rw[g] at ha qK;rw[ai hk] at qK;cases qK
  have n1:j≠i:=by intro h;unfold par at hp hk;omega
  have n2:j≠k:=by intro h;unfold par at hp;omega
  rw[ag n1,ag n2] at ha;exact hd.1 j h0 (by rw[hp];exact λh=>SY h.symm) a y ha (by rw[hp];exact hy)
def u3.first(hh:u3 h)(hx:h[0]?=some x):∀y∈h,¬bf y x:=by
 have key:∀(n j:Nat),j<=n->∀y:Item,h[j]?=some y-> ¬bf y x:=by
  intro n
  induction n with
  |zero=>intro j hj y hy;have:j=0:=by omega
         subst this;rw[hx] at hy;cases hy;exact Nn x
  |succ n ih=>
   intro j hj y hy;by_cases h0:j=0
   ·subst h0;rw[hx] at hy;cases hy;exact Nn x
   ·have cf:=(aw.1 hy).1;have hp:par j<h.length:=by unfold par;omega
    exact EN (hh j (by omega) y _ hy (aj hp)) (ih (par j) (by unfold par;omega) _ (aj hp))
 intro y hy;obtain⟨j,hj⟩:=qj hy;exact key j j (aG _) y hj
def NP{z:Item}{n:Nat}(hh:u3 h)(hl:h.length=n+1)(hi:i<n)(hz:h[n]?=some z):
 (i=0\/NB ((h.set i z).take n) i (par i))->HD ((h.set i z).take n) i:=by
 have g:∀j,((h.set i z).take n)[j]?=if j<n then(if j=i then some z else h[j]?) else none:=by
  intro j;rw[rV];by_cases h1:j<n
  ·rw[ai h1,ai h1,dc];by_cases h2:i=j
   ·subst h2;rw[ai rfl,ai (by omega),ai rfl]
   ·rw[ag h2,ag (by omega)]
  ·rw[ag h1,ag h1]
 have old:∀j a,j≠i->((h.set i z).take n)[j]?=some a->h[j]?=some a:=by
  intro j a hj ha;rw[g] at ha;rw[ag hj] at ha;split at ha
  ·exact ha
  ·cases ha
 intro ht;refine⟨λj h0 hp a b ha hb=>?_,λj h0 hp Yl a b ha hb=>?_⟩
 ·by_cases e:j=i
  ·subst e;rcases ht with ht|ht
   ·omega
   ·exact ht a b ha hb
  ·exact hh j h0 a b (old j a e ha) (old _ b hp hb)
 ·have n1:j≠i:=by intro h;unfold par at hp;omega
  have n2:par i≠i:=by unfold par;omega
  exact(hh.hu i).2 j h0 hp Yl a b (old j a n1 ha) (old _ b n2 hb)
def U3{z:Item}{n:Nat}(hh:u3 h)(hl:h.length=n+1)(hi:i<n)(hz:h[n]?=some z)(h0i:0<i){y:Item}(hy:h[par i]?=some y)(hb:bf z y):
 HU ((h.set i z).take n) i/\Kids ((h.set i z).take n) i:=by
 have g:∀j,((h.set i z).take n)[j]?=if j<n then(if j=i then some z else h[j]?) else none:=by
  intro j;rw[rV];by_cases h1:j<n
  ·rw[ai h1,ai h1,dc];by_cases h2:i=j
   ·subst h2;rw[ai rfl,ai (by omega),ai rfl]
   ·rw[ag h2,ag (by omega)]
  ·rw[ag h1,ag h1]
 have old:∀j a,j≠i->((h.set i z).take n)[j]?=some a->h[j]?=some a:=by
  intro j a hj ha;rw[g] at ha;rw[ag hj] at ha;split at ha
  ·exact ha
  ·cases ha
 have top:=(hh.hu i).2;have kids:Kids ((h.set i z).take n) i:=λj h0 hp a b ha qK=>by
  have n1:j≠i:=by intro h;unfold par at hp;omega
  rw[g,ai hi,ai rfl] at qK;cases qK
  exact SA (top j h0 hp h0i a y (old j a n1 ha) hy) hb
 refine⟨⟨λj h0 hj a b ha qK=>?_,λj h0 hp Yl a b ha qK=>?_⟩,kids⟩
 ·by_cases e:par j=i
  ·rw[e] at qK;exact kids j h0 e a b ha qK
  ·exact hh j h0 a b (old j a hj ha) (old _ b e qK)
 ·have n1:j≠i:=by intro h;unfold par at hp;omega
  have n2:par i≠i:=by unfold par;omega
  exact top j h0 hp Yl a b (old j a n1 ha) (old _ b n2 qK)
end
section
variable {W:World} {R:LH} {L:LH} {K:VK} {X:WK} {r o:Nat} {cs:LV} {b:OA} {c:Nat} {h:List Item}
def Lm{x y:Item}(hk:T W L (K (.b (decide (bf x y))))):T W L (rF (gA x) (gA y) K):=by
 unfold rF
 repeat' first|apply ws;intros|apply wb|apply dh<;>intro h1
 all_goals refine T.fin (T.dp hk) ?_
 ·have:=aQ h1;rw[av (show bf x y from .inl this)]
 ·rename_i h2;have h2:=bj h2;have h3:x.due=y.due:=by simpa using h1
  congr 1
  rw[decide_eq_decide];unfold bf;omega
 ·rename_i h2;have h2:=bj h2;have h3: ¬x.due=y.due:=by simpa using h1
  rw[aq (show ¬bf x y by unfold bf;omega)]
def KR{i:Nat}(h0:0<i)(h:i<1099511627776):aa.wrap ((aa.wrap ((i:Int) -1)).tdiv (2:Int))=((par i:Nat):Int):=by
 have e0:aa.wrap ((i:Int) -1)=((i-1:Nat):Int):=by rw[aW (by omega)];omega
 rw[e0];unfold par;have e1:((i-1:Nat):Int).tdiv 2=(((i-1)/2:Nat):Int):=by rw[Int.tdiv_eq_ediv_of_nonneg (by omega)];omega
 rw[e1,aW (by omega)]
def abe{i:Nat}(hv:cs[o]?=some (.l b h.length c))(hl:h.length<100000)(hi:i<h.length)(hu:HU h i)
 (hk:∀h',u3 h'->h'.Perm h->T W (Sep.pt r cs::own b h.length c 4 (h'.flatMap gA)::R) (K (.tuple ⟨[]⟩))):
 T W (Sep.pt r cs::own b h.length c 4 (h.flatMap gA)::R) (jc (some ⟨r,o,none⟩) (i:Int) K):=by
 unfold jc;intro w hs;refine⟨λvs w=>∃(j:Nat)(m:List Item),j<h.length/\m.length=h.length/\m.Perm h/\HU m j/\vs=[.i (j:Int)]/\St W w (Sep.pt r cs::own b h.length c 4 (m.flatMap gA)::R),
  λvs _=>match vs with|[.int _ j]=>j.toNat|_=>0,⟨i,h,hi,rfl,bU.refl _,hu,rfl,hs⟩,?_⟩
 rintro n2 w2 ⟨j,m,hj,IF,hp,hum,e,hs⟩;cases e
 refine T.at ?_ hs;apply ws;apply fV<;>intro g1
 ·have h0:0<j:=by omega
  have Q5:par j<m.length:=by unfold par;omega
  have gx:=aj (show j<m.length by omega);have gy:=aj Q5;generalize m[j]=x at gx;generalize m[par j]=y at gy;have kd:j≠par j:=by unfold par;omega
  simp only[KR h0 (by omega:j<1099511627776)]
  repeat' first|apply ws|apply wb|refine m9 hv ?_
  refine dM ⟨by omega,by omega⟩ λrb hb=>?_;subst hb;rw[ao];refine gI iI gx ?_
  repeat' first|apply ws|apply wb|first|refine m9 hv ?_|refine dD (by decide) ?_
  refine sX ⟨by omega,by omega⟩ ?_;rw[ao];refine gI iI gy ?_
  repeat' first|apply ws|apply wb|first|refine Lm ?_|refine yj hv ?_
  unfold jc.j1;simp only[KR h0 (by omega:j<1099511627776)];apply fV<;>intro g2
  ·have hb:=g2
   repeat' first|apply ws|apply wb|first|refine m9 hv ?_|refine dD (by decide) ?_
   refine sX ⟨by omega,by omega⟩ ?_;rw[ao];refine gI iI gy ?_
   repeat' first|apply ws|apply wb|first|refine m9 hv ?_|refine dD (by decide) ?_
   refine sX ⟨by omega,by omega⟩ ?_;rw[ao];refine gI iI gx ?_;refine sX ⟨by omega,by omega⟩ ?_;rw[ao];refine dD rfl (qP iI (by omega) (qe _) ?_);refine sX ⟨by omega,by omega⟩ ?_;rw[ao];refine dD rfl (qP iI (by simp;omega) (qe _) ?_);refine dD (by decide) λw3 h3=>⟨⟨par j,U8 m j (par j) x y,by omega,by rw[NV];exact IF,(JN gx gy kd).trans hp,hum.step h0 gx gy hb,rfl,h3⟩,by show(par j:Int).toNat<(j:Int).toNat;unfold par;omega⟩
  ·refine hk m (hum.heap (.inr ?_)) hp;intro a b ha qK;rw[gx] at ha;rw[gy] at qK;cases ha;cases qK
   exact g2
 ·have h0:j=0:=by omega
  unfold jc.j1;refine vF ?_;exact hk m (hum.heap (.inl h0)) hp
def aaD{i:Nat}(hv:cs[o]?=some (.l b h.length c))(hl:h.length<100000)(hi:i<h.length)(hd:HD h i\/Kids h i)
 (hk:∀h',(u3 h'\/h'=h/\Kids h i)->h'.Perm h->T W (Sep.pt r cs::own b h.length c 4 (h'.flatMap gA)::R) (K (.tuple ⟨[]⟩))):
 T W (Sep.pt r cs::own b h.length c 4 (h.flatMap gA)::R) (fA (some ⟨r,o,none⟩) (i:Int) K):=by
 unfold fA;intro w hs;refine⟨λvs w=>∃(j:Nat)(m:List Item),j<h.length/\m.length=h.length/\m.Perm h/\(HD m j\/m=h/\j=i/\Kids h i)/\vs=[.i (j:Int)]/\St W w (Sep.pt r cs::own b h.length c 4 (m.flatMap gA)::R),
  λvs _=>match vs with|[.int _ j]=>h.length-j.toNat|_=>0,⟨i,h,hi,rfl,bU.refl _,hd.imp id λhh=>⟨rfl,rfl,hh⟩,rfl,hs⟩,?_⟩
 rintro n2 w2 ⟨j,m,hj,IF,hp,Dv,e,hs⟩;cases e
 have e1:aa.wrap (aa.wrap (2* (j:Int))+1)=((2* j+1:Nat):Int):=by
  have:aa.wrap (2* (j:Int))=2* j:=aW (by omega);rw[this,aW (by omega)];omega
 have e2:aa.wrap (aa.wrap (2* (j:Int))+2)=((2* j+2:Nat):Int):=by
  have:aa.wrap (2* (j:Int))=2* j:=aW (by omega);rw[this,aW (by omega)];omega
 rw[e1];refine⟨λvs w=>∃(k d:Nat),2* j+1<=d/\d<=2* j+3/\(k=j\/0<k/\par k=j/\∃x y,m[k]?=some x/\m[j]?=some y/\bf x y)/\(∀q,0<q->par q=j->q<d->NB m q k)/\k<h.length/\
    vs=[.i (j:Int),.i (k:Int),.i (d:Int)]/\St W w (Sep.pt r cs::own b h.length c 4 (m.flatMap gA)::R),
  λvs _=>match vs with|[_,_,.int _ d]=>2* j+3-d.toNat|_=>0,⟨j,2* j+1,aG _,by omega,.inl rfl,(λq h0 hq cf=>by unfold par at hq;omega),hj,rfl,hs⟩,?_⟩
 rintro n5 n6 n7 w5 ⟨k,d,hd1,UL,hkk,zf,hkl,e,hs⟩;cases e
 refine T.at ?_ hs;rw[e2];have out:(∀q,0<q->par q=j->NB m q k)->T W (Sep.pt r cs::own b h.length c 4 (m.flatMap gA)::R) (fA.j1 K (some ⟨r,o,none⟩) (λvs w=>∃(j:Nat)(m:List Item),j<h.length/\m.length=h.length/\m.Perm h/\(HD m j\/m=h/\j=i/\Kids h i)/\vs=[.i (j:Int)]/\St W w (Sep.pt r cs::own b h.length c 4 (m.flatMap gA)::R))
                      (λvs _=>match vs with|[.int _ j]=>h.length-j.toNat|_=>0) (j:Int) w2 (j:Int) (k:Int)):=by
  intro gh;unfold fA.j1;apply dh<;>intro g1
  ·have:k=j:=by have:(k:Int)=j:=by simpa using g1
                omega
   subst this;refine hk m ?_ hp;rcases Dv with Dv|⟨hm,KK,hki⟩
   ·exact .inl (Dv.heap gh)
   ·exact .inr ⟨hm,hki⟩
  ·have kd:k≠j:=by
    intro hh;subst hh;simp at g1
   obtain⟨h0,Wh,x,y,gx,gy,hb⟩:=hkk.resolve_left kd;have aej:HD m j:=by
    rcases Dv with Dv|⟨hm,KK,hki⟩
    ·exact Dv
    ·subst hm;subst KK;exact aT hb (hki k h0 Wh x y gx gy)
   repeat' first|apply ws|apply wb|refine m9 hv ?_
   refine dM ⟨by omega,by omega⟩ λrb qK=>?_;subst qK;rw[ao];refine gI iI gx ?_
   repeat' first|apply ws|apply wb|refine m9 hv ?_
   refine sX ⟨by omega,by omega⟩ ?_;rw[ao];refine gI iI gy ?_;refine sX ⟨by omega,by omega⟩ ?_;rw[ao];refine dD rfl (qP iI (by omega) (qe _) ?_);refine sX ⟨by omega,by omega⟩ ?_;rw[ao];refine dD rfl (qP iI (by simp;omega) (qe _) ?_);refine λw3 h3=>⟨⟨k,U8 m j k y x,hkl,by rw[NV];exact IF,(JN gy gx (λhh=>kd hh.symm)).trans hp,.inl (aej.step Wh h0 gy gx hb gh),rfl,h3⟩,by show h.length-(k:Int).toNat<h.length-(j:Int).toNat;unfold par at Wh;omega⟩
 apply fV<;>intro g1
 ·have hle:d<=2* j+2:=by omega
  repeat' first|apply ws|apply wb|refine m9 hv ?_
  unfold fA.j2;apply fV<;>intro g2
  ·have cf:d<h.length:=by omega
   have gx:=aj (show d<m.length by omega);have gy:=aj (show k<m.length by omega);generalize m[d]=x at gx;generalize hmk:m[k]'(by omega)=y at gy;have hpd:par d=j:=by unfold par;omega
   have e5:=nL d
   repeat' first|apply ws|apply wb|refine m9 hv ?_
   refine dM ⟨by omega,by omega⟩ λrb hb=>?_;subst hb;rw[ao];refine gI iI gx ?_
   repeat' first|apply ws|apply wb|refine m9 hv ?_
   refine sX ⟨by omega,by omega⟩ ?_;rw[ao];refine gI iI gy ?_
   repeat' first|apply ws|apply wb|first|refine Lm ?_|refine yj hv ?_
   rw[e5];apply fV<;>intro g3
   ·have hb:=g3;refine λw3 h3=>⟨⟨d,d+1,by omega,by omega,.inr ⟨by omega,hpd,x,?_⟩,λq h0 hq xh a b' ha wm=>?_,cf,rfl,h3⟩,by show 2* j+3-((d+1:Nat):Int).toNat<2* j+3-(d:Int).toNat;omega⟩
    ·rcases hkk with rfl|⟨h0,Wh,x1,y1,q1,q2,q3⟩
     ·exact⟨y,gx,gy,hb⟩
     ·rw[gy] at q1;cases q1
      exact⟨y1,gx,q2,Ll hb q3⟩
    ·rw[gx] at wm;cases wm
     by_cases hqd:q=d
     ·subst hqd;rw[gx] at ha;cases ha;exact Nn x
     ·exact SA (zf q h0 hq (by omega) a y ha gy) hb
   ·have hb:=g3;refine λw3 h3=>⟨⟨k,d+1,by omega,by omega,hkk,λq h0 hq xh=>?_,hkl,rfl,h3⟩,by show 2* j+3-((d+1:Nat):Int).toNat<2* j+3-(d:Int).toNat;omega⟩;by_cases hqd:q=d
    ·subst hqd;intro a b' ha wm;rw[gx] at ha;rw[gy] at wm;cases ha;cases wm;exact hb
    ·exact zf q h0 hq (by omega)
  ·have iM:h.length<=d:=by omega
   refine out λq h0 hq a b' ha wm=>?_;have:=(aw.1 ha).1;exact zf q h0 hq (by omega) a b' ha wm
 ·have OL:2* j+2<d:=by omega
  unfold fA.j2;refine vF ?_;exact out λq h0 hq=>zf q h0 hq (by unfold par at hq;omega)
def PY{z x:Item}{i n:Nat}(hl:h.length=n+1)(hi:i<n)(hz:h[n]?=some z)(hx:h[i]?=some x):(x::(h.set i z).take n).Perm h:=by
 have h1:=yM (y:=z) hx;have h2:h.set i z=(h.set i z).take n++[z]:=by
  conv=>lhs;rw[<-dj n (h.set i z)]
  congr 1
  have:(h.set i z)[n]?=some z:=by rw[dc,ag (by omega)];exact hz
  rw[gO (by simp;omega),ga (by simp;omega)];rw[aj (by simp;omega)] at this;rw[bE.inj this]
 rw[h2] at h1;have h3:(x::((h.set i z).take n++[z])).Perm (z::x::(h.set i z).take n):=((bu (l₁:=(h.set i z).take n) (l₂:=[z])).cons x).trans (bU.swap _ _ _);exact(List.perm_cons z).1 (h3.symm.trans h1)
def Y7{α:Type}{r n c e o:Nat}{l:List α}{x:α}{g:α->LV}{f:HP->LH}[i:ux (ah r) n c L e (l.flatMap g) f](hf:∀x,(g x).length=e)(hx:l[o]?=some x)(h:T W L X):T W L (kp ⟨r,o* e,none⟩ (g x) X):=λw hs=>by
 obtain⟨k,hk,_⟩:=i.at_;exact⟨y7 hs hk (qz hf l o x hx),h w hs⟩
def T.Vl{A B C D:HP}(h:T W (A::B::C::D::R) X):T W (C::D::A::B::R) X:=T.perm h (bu (l₁:=[C,D]) (l₂:=[A,B])|>.append_right R)
def T.XW{A B C:HP}(h:T W (A::B::C::R) X):T W (C::A::B::R) X:=T.perm h (bu (l₁:=[C]) (l₂:=[A,B])|>.append_right R)
def T.XX{A B C:HP}(h:T W (A::B::C::R) X):T W (B::C::A::R) X:=T.perm h (bu (l₁:=[B,C]) (l₂:=[A])|>.append_right R)
def Y2{i:Nat}{x:Item}(hv:cs[o]?=some (.l b h.length c))(hl:h.length<100000)(hx:h[i]?=some x)(hh:u3 h)
 (hk:∀h',u3 h'->(x::h').Perm h->T W (Sep.pt r (cs.set o (.l b h'.length c))::own b h'.length c 4 (h'.flatMap gA)::R) (K (.agg ⟨gA x⟩))):
 T W (Sep.pt r cs::own b h.length c 4 (h.flatMap gA)::R) (qc (some ⟨r,o,none⟩) (i:Int) K):=by
 have hi:=(aw.1 hx).1;obtain⟨n,hn⟩:∃n,h.length=n+1:=⟨h.length-1,by omega⟩;have gz:=aj (show n<h.length by omega);generalize h[n]=z at gz;have e1:aa.wrap ((h.length:Int) -1)=(n:Int):=by rw[aW (by omega)];omega
 unfold qc
 repeat' first|apply ws;intros|apply wb|refine m9 hv ?_
 refine dM ⟨by omega,by omega⟩ λrb hb=>?_;subst hb;rw[ao];refine gI iI hx ?_
 repeat' first|apply ws;intros|apply wb|first|refine m9 hv ?_|refine yj hv ?_
 refine Y7 iI hx ?_
 repeat' first|apply ws|apply wb|first|refine m9 hv ?_|refine yj hv ?_
 rw[e1];refine sX ⟨by omega,by omega⟩ ?_;rw[ao];refine gI iI gz ?_;refine sX ⟨by omega,by omega⟩ ?_;rw[ao];refine dD rfl (qP iI hi (qe _) ?_)
 repeat' first|apply ws|apply wb|first|refine m9 hv ?_|refine yj hv ?_
 refine qJ (b:=ah rb) λu1 _=>?_;refine zD (by omega) ?_;refine Au (b:=ah rb) (i:=n) iI (by omega) ?_
 repeat' first|apply ws|apply wb|refine H3 hv rfl ?_
 have Cz:=tq (v:=.l (ah rb) n c) hv;apply fV<;>intro g1
 ·have cf:i<n:=by omega
  have hp:=PY hn cf gz hx;have IF:((h.set i z).take n).length=n:=by simp;omega
  rename_i r1 r2;refine T.Vl ?_;have key:HD ((h.set i z).take n) i\/HU ((h.set i z).take n) i/\Kids ((h.set i z).take n) i:=by
   by_cases h0:i=0
   ·exact .inl (NP hh hn cf gz (.inl h0))
   ·have Q5:par i<h.length:=by unfold par;omega
    have gy:=aj Q5;generalize h[par i]=y at gy;by_cases hb:bf z y
    ·exact .inr (U3 hh hn cf gz (by omega) gy hb)
    ·refine .inl (NP hh hn cf gz (.inr ?_));intro a b' ha qK;have LO:par i≠i:=by unfold par;omega
     have hpn:par i<n:=by unfold par;omega
     rw[rV,ai cf,dc,ai rfl,ai hi] at ha;rw[rV,ai hpn,dc,ag (λh=>LO h.symm),gy] at qK;cases ha;cases qK;exact hb
  generalize (h.set i z).take n=m at hp IF key;subst IF;refine aaD Cz (by omega) cf (key.imp id (·.2)) λm2 LQ E2=>?_;apply ws;have Wo:=E2.length_eq;rw[<-Wo];have Wa:=tq (v:=.l (ah rb) m2.length c) hv;have hu2:HU m2 i:=by
   rcases LQ with LQ|⟨rfl,hki⟩
   ·exact LQ.hu i
   ·rcases key with k1|k1
    ·exact(k1.heap hki).hu i
    ·exact k1.1
  refine abe Wa (by omega) (by omega) hu2 λm3 hm3 hp3=>?_;apply ws;have UG:=hp3.length_eq;have:=hk m3 hm3 ((hp3.trans E2).cons x|>.trans hp);rw[UG] at this;exact T.Vl (T.drop (T.drop this))
 ·have hie:i=n:=by omega
  subst hie;apply ws;have hm:(h.set i z).take i=h.take i:=by rw[List.take_set_of_le (aG _)]
  rw[hm];have IF:(h.take i).length=i:=by simp;omega
  have hh':u3 (h.take i):=λj h0 a b' ha qK=>by
   rw[rV] at ha qK;split at ha
   ·split at qK
    ·exact hh j h0 a b' ha qK
    ·cases qK
   ·cases ha
  have:=hk (h.take i) hh' (by
   conv=>rhs;rw[<-dj i h]
   have:h.drop i=[x]:=by
    rw[gO hi,ga (by omega)]
    rw[aj hi] at hx
    rw[bE.inj hx]
   rw[this]
   exact bu (l₁:=[x]) (l₂:=h.take i))
  rw[IF] at this;exact T.dp this
def Zx{x:Item}(hv:cs[o]?=some (.l b h.length c))(hl:h.length<10000)(hh:u3 h)
 (hk:∀b' c' h',u3 h'->h'.Perm (h++[x])->T W (Sep.pt r (cs.set o (.l b' h'.length c'))::own b' h'.length c' 4 (h'.flatMap gA)::R) (K (.tuple ⟨[]⟩))):
 T W (Sep.pt r cs::own b h.length c 4 (h.flatMap gA)::R) (lD (some ⟨r,o,none⟩) (gA x) K):=by
 unfold lD;refine tS λr1=>Za ?_
 repeat' first|apply ws;intros|apply wb|first|refine m9 hv ?_|refine yj hv ?_
 refine jm (x:=x) (by simp) rfl rfl (by omega) (by omega) (qe _) λb' c'=>?_
 repeat' first|apply ws|apply wb|first|refine H3 hv rfl ?_|refine m9 (tq hv) ?_
 rename_i r2;have e1:aa.wrap (((h.length+1:Nat):Int) -1)=(h.length:Int):=by rw[aW (by omega)];omega
 rw[e1];refine T.Vl ?_;have hu:HU (h++[x]) h.length:=by
  refine⟨λj h0 hj a b' ha qK=>?_,λj h0 hp hi a b' ha qK=>?_⟩
  ·have cf:=(aw.1 ha).1;simp at cf;rw[dB (by omega)] at ha;rw[dB (by unfold par;omega)] at qK;exact hh j h0 a b' ha qK
  ·have cf:=(aw.1 ha).1;simp at cf;unfold par at hp;omega
 have Cz:=tq (v:=.l b' (h.length+1) c') hv;have LS:(h++[x]).length=h.length+1:=by simp
 rw[<-LS] at Cz⊢;refine abe Cz (by omega) (by simp) hu λm hm hp=>?_;apply ws;have:=hk b' c' m hm hp;rw[hp.length_eq] at this;exact T.Vl (T.drop (T.drop this))
def Vz{s:Int}(hv:cs[o]?=some (.l b h.length c))(hl:h.length<10000)(hh:u3 h)
 (h1:∀x m,x.ay=s->u3 m->(x::m).Perm h->T W (Sep.pt r (cs.set o (.l b m.length c))::own b m.length c 4 (m.flatMap gA)::R) (K (.b true)))
 (h0:(∀x∈h,x.ay≠s)->T W (Sep.pt r cs::own b h.length c 4 (h.flatMap gA)::R) (K (.b false))):
 T W (Sep.pt r cs::own b h.length c 4 (h.flatMap gA)::R) (mn (some ⟨r,o,none⟩) s K):=by
 unfold mn;refine yk ?_
 repeat' first|apply ws|apply wb|refine m9 hv ?_
 intro w hs;refine⟨λvs w=>∃(i:Nat),i<=h.length/\(∀j x,j<i->h[j]?=some x->x.ay≠s)/\vs=[.b false,.l b h.length c,.i (h.length:Int),.i (i:Int)]/\St W w (Sep.pt r cs::own b h.length c 4 (h.flatMap gA)::R),
  λvs _=>match vs with|[_,_,_,.int _ d]=>h.length-d.toNat|_=>0,⟨0,aE _,(λj x hj=>by omega),rfl,hs⟩,?_⟩
 rintro b1 qI oW re n2 n3 w2 ⟨i,hi,FZ,e,hs⟩;cases e
 refine T.at ?_ hs;apply fV<;>intro g1
 ·have cf:i<h.length:=by omega
  have gx:=aj cf;generalize h[i]=x at gx;have e5:=nL i;refine dM ⟨by omega,by omega⟩ λrb hb=>?_;subst hb;rw[ao];refine gI iI gx ?_;apply ws;intros;rename_i r1;rw[e5];apply dh<;>intro g2
  ·refine T.XW ?_;refine Y2 hv (by omega) gx hh λm hm hp=>?_;apply ws;refine T.XX (T.drop ?_);exact h1 x m (by simpa using g2) hm hp
  ·refine T.drop λw3 h3=>⟨⟨i+1,cf,λj y hj hy=>?_,rfl,h3⟩,by show h.length-((i+1:Nat):Int).toNat<h.length-(i:Int).toNat;omega⟩;by_cases KK:j=i
   ·subst KK;rw[gx] at hy;cases hy;simpa using g2
   ·exact FZ j y (by omega) hy
 ·have iM:i=h.length:=by omega
  refine h0 λx hx=>?_;obtain⟨j,hj⟩:=qj hx;exact FZ j x (by have:=(aw.1 hj).1;omega) hj
end
class UT{α β:Type}(P:α->HP)(Q:β->HP)(L:LH)(x:outParam α)(y:outParam β)(F:outParam (α->β->LH)):Prop where
 at_:∃R:LH,L.Perm (P x::Q y::R)/\∀x' y',(F x' y').Perm (P x'::Q y'::R)
section
variable {α β:Type} {P:α->HP} {Q:β->HP} {L:LH} {x:α} {y:β}
def Lc.perm{f:α->LH}(h:Lc P L x f):∃R:LH,L.Perm (P x::R)/\∀x',(f x').Perm (P x'::R):=by
 obtain⟨k,h1,h2⟩:=h.at_;exact⟨L.eraseIdx k,sS h1,λy=>by rw[h2];exact(set_perm h1).symm⟩
instance(priority:=low) UT.tail{A:HP}{F:α->β->LH}[h:UT P Q L x y F]:UT P Q (A::L) x y (λa b=>A::F a b):=by
 obtain⟨R,h1,h2⟩:=h.at_;exact⟨A::R,(h1.cons A).trans ((bU.swap _ _ _).trans ((bU.swap _ _ _).cons _)),λa b=>((h2 a b).cons A).trans ((bU.swap _ _ _).trans ((bU.swap _ _ _).cons _))⟩
instance UT.ag6{f:α->LH}[h:Lc P L x f]:UT P Q (Q y::L) x y (λa b=>Q b::f a):=by
 obtain⟨R,h1,h2⟩:=h.perm;exact⟨R,(h1.cons _).trans (bU.swap _ _ _),λa b=>((h2 a).cons _).trans (bU.swap _ _ _)⟩
def Dc{W:World}{X:WK}{F:α->β->LH}[i:UT P Q L x y F](h:∀R,(∀M a b Y,T W (M++F a b) Y->T W (M++P a::Q b::R) Y)->T W (P x::Q y::R) X):T W L X:=by
 obtain⟨R,h1,h2⟩:=i.at_;exact T.perm (h R λM a b Y hy=>T.perm hy ((h2 a b).symm.append_left M)) h1
end
def St.ss{W w:World}:∀(M R:LH),St W w (vH M::R)->St W w (M++R)
 |[],R,h=>h.drop
 |A::M,R,h=>(St.ss M (A::R) (h.split.perm (bU.swap _ _ _))).perm iy
def St.qR{W w:World}:∀(M R:LH),St W w (M++R)->St W w (vH M::R)
 |[],R,h=>h.push trivial
 |A::M,R,h=>St.join ((St.qR M (A::R) (h.perm iy.symm)).perm (bU.swap _ _ _))
structure Core where
 la:Nat
 lk:Nat
 ti:Nat
 tn:Nat
 vs:LV
 dG:List nN
 ends:List Item
 clock:Int
 ay:Int
def iZ(q:Core)(b1:OA)(c1:Nat)(b2:OA)(c2:Nat)(b3:OA)(n3 c3:Nat):LV:=
 [.l b1 q.vs.length c1,.p (some (ad q.la 0)),.p (some (ad q.lk 0)),.p (some (ad q.ti 0)),.p (some (ad q.tn 0)),.l b2 q.dG.length c2,.l b3 n3 c3,.i q.clock,.i q.ay]
def coreS(p:Nat)(q:Core)(b1:OA)(c1:Nat)(b2:OA)(c2:Nat)(b3:OA)(c3:Nat)(h:List Item):LH:=
 [Sep.pt p (iZ q b1 c1 b2 c2 b3 h.length c3),own b1 q.vs.length c1 1 q.vs,own b2 q.dG.length c2 2 (q.dG.flatMap oY),own b3 h.length c3 4 (h.flatMap gA)]
def gM(p:Nat)(q:Core):HP:=
 Ra λz:(OA×Nat)×(OA×Nat)×(OA×Nat)×List Item=>FC (u3 z.2.2.2/\z.2.2.2.Perm q.ends) (vH (coreS p q z.1.1 z.1.2 z.2.1.1 z.2.1.2 z.2.2.1.1 z.2.2.1.2 z.2.2.2))
def yH(q:Core)(o:Nat):Option Value:=match o with
 |1=>some (.p (some (ad q.la 0)))
 |2=>some (.p (some (ad q.lk 0)))
 |3=>some (.p (some (ad q.ti 0)))
 |4=>some (.p (some (ad q.tn 0)))
 |7=>some (.i q.clock)
 |8=>some (.i q.ay)
 |_=>none
section
variable {W:World} {L:LH} {K:VK} {X:WK} {p o:Nat} {q:Core} {f:Core->LH} {v:Value}
def HK{R:LH}(hx:∀b1 c1 b2 c2 b3 c3 h,u3 h->h.Perm q.ends->T W (Sep.pt p (iZ q b1 c1 b2 c2 b3 h.length c3)::own b1 q.vs.length c1 1 q.vs::own b2 q.dG.length c2 2 (q.dG.flatMap oY)::own b3 h.length c3 4 (h.flatMap gA)::R) X):T W (gM p q::R) X:=λw hs=>by
 obtain⟨⟨⟨b1,c1⟩,⟨b2,c2⟩,⟨b3,c3⟩,hp⟩,hs⟩:=hs.ex;obtain⟨⟨h1,h2⟩,hs⟩:=hs.and;exact hx b1 c1 b2 c2 b3 c3 hp h1 h2 w (St.ss _ _ hs)
def Ab{R:LH}{b1:OA}{c1:Nat}{b2:OA}{c2:Nat}{b3:OA}{c3:Nat}{h:List Item}(h1:u3 h)(h2:h.Perm q.ends)(hx:T W (gM p q::R) X):T W (Sep.pt p (iZ q b1 c1 b2 c2 b3 h.length c3)::own b1 q.vs.length c1 1 q.vs::own b2 q.dG.length c2 2 (q.dG.flatMap oY)::own b3 h.length c3 4 (h.flatMap gA)::R) X:=λw hs=>
 hx w (St.qB ((b1,c1),(b2,c2),(b3,c3),h) (St.and_intro ⟨h1,h2⟩ (St.qR _ _ hs)))
def Db{α:Type}{P:α->HP}{a:α}{f:α->LH}[i:Lc P L a f](h:∀R,(∀M y Y,T W (M++f y) Y->T W (M++P y::R) Y)->T W (P a::R) X):T W L X:=by
 obtain⟨R,h1,h2⟩:=i.perm;exact T.perm (h R λM y Y hy=>T.perm hy ((h2 y).symm.append_left M)) h1
def T.Ii{R:LH}{A B C:HP}(h:T W (A::C::B::R) X):T W (A::B::C::R) X:=T.perm h ((bU.swap _ _ _).cons _)
def T.Mp{R:LH}{A B C D:HP}(h:T W (A::D::B::C::R) X):T W (A::B::C::D::R) X:=T.perm h ((bu (l₁:=[B,C]) (l₂:=[D])|>.append_right R).cons _)
def T.Ej{R:LH}{A B C D:HP}(h:T W (A::B::C::D::R) X):T W (A::D::B::C::R) X:=T.perm h ((bu (l₁:=[D]) (l₂:=[B,C])|>.append_right R).cons _)
def qn[i:Lc (gM p) L q f](hx:∀b1 c1 b2 c2 b3 c3 h R,u3 h->h.Perm q.ends->
 (∀M q' b1 c1 b2 c2 b3 c3 h Y,u3 h->h.Perm q'.ends->T W (M++f q') Y->T W (M++Sep.pt p (iZ q' b1 c1 b2 c2 b3 h.length c3)::own b1 q'.vs.length c1 1 q'.vs::own b2 q'.dG.length c2 2 (q'.dG.flatMap oY)::own b3 h.length c3 4 (h.flatMap gA)::R) Y)->T W (Sep.pt p (iZ q b1 c1 b2 c2 b3 h.length c3)::own b1 q.vs.length c1 1 q.vs::own b2 q.dG.length c2 2 (q.dG.flatMap oY)::own b3 h.length c3 4 (h.flatMap gA)::R) X):T W L X:=
 Db (P:=gM p) λR hc=>HK λb1 c1 b2 c2 b3 c3 h h1 h2=>hx b1 c1 b2 c2 b3 c3 h R h1 h2 λM q' b1 c1 b2 c2 b3 c3 h Y g1 g2 hy=>
  T.perm (Ab (R:=M++R) g1 g2 (T.perm (hc M q' Y hy) (iy.symm))) (by
   have:=bu (l₁:=M) (l₂:=[Sep.pt p (iZ q' b1 c1 b2 c2 b3 h.length c3),own b1 q'.vs.length c1 1 q'.vs,own b2 q'.dG.length c2 2 (q'.dG.flatMap oY),own b3 h.length c3 4 (h.flatMap gA)])|>.append_right R
   simpa using this)
def A9{b1:OA}{c1:Nat}{b2:OA}{c2:Nat}{b3:OA}{c3 n:Nat}(hv:yH q o=some v):(iZ q b1 c1 b2 c2 b3 n c3)[o]?=some v:=by
 unfold yH at hv;split at hv<;>first|exact hv|cases hv
def abq[i:Lc (gM p) L q f](hv:yH q o=some v)(h:T W L (K v)):T W L (ld ⟨p,o,none⟩ K):=by
 have hL:f q=L:=i.same;refine qn (p:=p) λb1 c1 b2 c2 b3 c3 hp R h1 h2 hc=>?_;refine m9 (r:=p) (A9 hv) ?_;exact hc [] q _ _ _ _ _ _ _ _ h1 h2 (by rw[hL];exact h)
def abr[i:Lc (gM p) L q f](hv:yH q o=some v)(h:T W L X):T W L (kp ⟨p,o,none⟩ [v] X):=by
 have hL:f q=L:=i.same;refine qn (p:=p) λb1 c1 b2 c2 b3 c3 hp R h1 h2 hc=>?_;refine yj (r:=p) (A9 hv) ?_;exact hc [] q _ _ _ _ _ _ _ _ h1 h2 (by rw[hL];exact h)
class Gc(q:Core)(o:Nat)(v:outParam Value):Prop where
 is:yH q o=some v
instance:Gc q 1 (.p (some (ad q.la 0))):=⟨rfl⟩
instance:Gc q 2 (.p (some (ad q.lk 0))):=⟨rfl⟩
instance:Gc q 3 (.p (some (ad q.ti 0))):=⟨rfl⟩
instance:Gc q 4 (.p (some (ad q.tn 0))):=⟨rfl⟩
instance:Gc q 7 (.i q.clock):=⟨rfl⟩
instance:Gc q 8 (.i q.ay):=⟨rfl⟩
instance[i:Lc (gM p) L q f][g:Gc q o v]:Lv L p o v:=⟨λh=>abq (i:=i) g.is h,λh=>abr (i:=i) g.is h⟩
def Me[i:Lc (gM p) L q f]{t:Int}(h:T W (f {q with clock:=t}) X):T W L (st ⟨p,7,none⟩ (.i t) X):=by
 refine qn (p:=p) λb1 c1 b2 c2 b3 c3 hp R h1 h2 hc=>?_;unfold iZ;apply ws;exact hc [] {q with clock:=t} _ _ _ _ _ _ _ _ h1 h2 h
def Mc[i:Lc (gM p) L q f]{t:Int}(h:T W (f {q with ay:=t}) X):T W L (st ⟨p,8,none⟩ (.i t) X):=by
 refine qn (p:=p) λb1 c1 b2 c2 b3 c3 hp R h1 h2 hc=>?_;unfold iZ;apply ws;exact hc [] {q with ay:=t} _ _ _ _ _ _ _ _ h1 h2 h
def vP[i:Lc (gM p) L q f](hl:q.vs.length<1000000)(h1v:v.oneCell'=true)(hcv:fr v=[v])(h:T W (f {q with vs:=q.vs++[v]}) (K (.tuple ⟨[]⟩))):T W L (ik (ah p) v K):=by
 refine qn (p:=p) λb1 c1 b2 c2 b3 c3 hp R h1 h2 hc=>?_;unfold ik iZ;rw[hcv];apply ws;intros;refine RP (ys:=[v]) (n:=q.vs.length) (bytes:=8) rfl rfl (by omega) (λu hu=>by simp at hu;rw[hu];exact h1v) (λb' c'=>?_) (by omega);apply ws;have:=hc [] {q with vs:=q.vs++[v]} b' c' b2 c2 b3 c3 hp _ h1 h2 h;unfold iZ at this;simp only[au,pD] at this;exact T.drop this
def aaY[i:Lc (gM p) L q f](h:T W L (K (.i (q.vs.length:Int)))):T W L (sJ (ah p) K):=by
 have hL:f q=L:=i.same;refine qn (p:=p) λb1 c1 b2 c2 b3 c3 hp R h1 h2 hc=>?_;unfold sJ iZ;apply ws;exact hc [] q _ _ _ _ _ _ _ _ h1 h2 (by rw[hL];exact h)
def O4[i:Lc (gM p) L q f]{s a:Int}(hr:sG q.dG)(hl:q.dG.length<1099511627)(hs:∀x∈q.dG,x.1<s)(h:T W (f {q with dG:=q.dG++[(s,a)]}) (K (.b true))):T W L (jd (some ⟨p,5,none⟩) s a K):=by
 refine qn (p:=p) λb1 c1 b2 c2 b3 c3 hp R h1 h2 hc=>?_;refine T.Ii ?_;refine ZB rfl hr hl hs λb' c'=>?_;refine T.Ii ?_;have:=hc [] {q with dG:=q.dG++[(s,a)]} b1 c1 b' c' b3 c3 hp _ h1 h2 h;simp only[iZ,au,pD] at this;exact this
def TF[i:Lc (gM p) L q f]{s a:Int}{l0:List nN}(hr:sG q.dG)(hl:q.dG.length<1099511627)(hs:q.dG=l0++[(s,a)])(h:T W (f {q with dG:=l0}) (K (.b true))):T W L (ji (some ⟨p,5,none⟩) s K):=by
 refine qn (p:=p) λb1 c1 b2 c2 b3 c3 hp R h1 h2 hc=>?_;refine T.Ii ?_;refine VE rfl hr hl hs λb' c'=>?_;refine T.Ii ?_;exact hc [] {q with dG:=l0} b1 c1 b' c' b3 c3 hp _ h1 h2 h
def QL[i:Lc (gM p) L q f]{from_ toX:Int}{yY:Bool}(hr:sG q.dG)(hl:q.dG.length<100000)
 (h:∀b' c' out,out=(if yY then(qo from_ toX q.dG).reverse else qo from_ toX q.dG)->T W (own b' out.length c' 2 (out.flatMap oY)::L) (K (.l b' out.length c'))):T W L (fU (some ⟨p,5,none⟩) from_ toX yY K):=by
 have hL:f q=L:=i.same;refine qn (p:=p) λb1 c1 b2 c2 b3 c3 hp R h1 h2 hc=>?_;refine Su (b:=b2) (c:=c2) rfl hr hl λb' c' out ho=>?_;exact hc [_] q b1 c1 b2 c2 b3 c3 hp _ h1 h2 (by rw[hL];exact h b' c' out ho)
def IY[i:Lc (gM p) L q f]{x:Item}{e':List Item}(hl:q.ends.length<10000)(he:e'.Perm (q.ends++[x]))(h:T W (f {q with ends:=e'}) (K (.tuple ⟨[]⟩))):T W L (lD (some ⟨p,6,none⟩) (gA x) K):=by
 refine qn (p:=p) λb1 c1 b2 c2 b3 c3 hp R h1 h2 hc=>?_;refine T.Mp ?_;refine Zx rfl (by rw[h2.length_eq];exact hl) h1 λb' c' h' g1 g2=>?_;refine T.Ej ?_;exact hc [] {q with ends:=e'} b1 c1 b2 c2 b' c' h' _ g1 (g2.trans ((h2.append_right _).trans he.symm)) h
def La[i:Lc (gM p) L q f]{s:Int}(hl:q.ends.length<10000)
 (h1:∀x e',x.ay=s->(x::e').Perm q.ends->T W (f {q with ends:=e'}) (K (.b true)))(h0:(∀x∈q.ends,x.ay≠s)->T W L (K (.b false))):T W L (mn (some ⟨p,6,none⟩) s K):=by
 have hL:f q=L:=i.same;rw[<-hL] at h0;refine qn (p:=p) λb1 c1 b2 c2 b3 c3 hp R g1 g2 hc=>?_;refine T.Mp ?_;refine Vz rfl (by rw[g2.length_eq];exact hl) g1 (λx m hx hm hpm=>?_) (λFZ=>?_)
 ·refine T.Ej ?_;exact hc [] {q with ends:=m} b1 c1 b2 c2 b3 c3 m _ hm (bU.refl _) (h1 x m hx (hpm.trans g2))
 ·refine T.Ej ?_;exact hc [] q b1 c1 b2 c2 b3 c3 hp _ g1 g2 (h0 λx hx=>FZ x (g2.mem_iff.2 hx))
end
def jx(a:bC):(aK a).length=14:=rfl
def we(k:bW):(bG k).length=33:=rfl
section
variable {x1 x2 x3 x4 x5 x6 x7 x8 x9 DO DN DM DL HT L5 L4 XH XG YT YR YQ YP YO YN YM YL YK YJ x29 x30 x31 x32 x33:Value} {k k':bW} {i:Int} {m t:cE}
def zK:bW:=⟨zT,zT,0⟩
instance:Wr [x1,x2,x3,x4,x5,x6,x7,x8,x9,DO,DN,DM,DL,HT,L5,L4,XH,XG,YT,YR,YQ,YP,YO,YN,YM,YL,YK,YJ,x29,x30,x31,x32,x33] 0 (bG k) (bG k):=⟨rfl,aG _,mC k⟩
instance:Wr (bG k) 0 (bG k') (bG k'):=⟨rfl,aG _,mC k'⟩
instance:Wr [x1,x2,x3,x4,x5,x6,x7,x8,x9,DO,DN,DM,DL,HT,L5,L4,XH,XG,YT,YR,YQ,YP,YO,YN,YM,YL,YK,YJ,x29,x30,x31,x32,x33] 0 [.u 0,.u 0,.u 0,.u 0,.u 0,.u 0,.u 0,.u 0,.u 0,.u 0,.i 0,.i 0,.i 0,.i 0,.i 0,.i 0,.u 0,.u 0,.u 0,.u 0,.u 0,.u 0,.u 0,.u 0,.u 0,.u 0,.i 0,.i 0,.i 0,.i 0,.i 0,.i 0,.i 0] (bG zK):=⟨rfl,aG _,mC zK⟩
instance:Wr (bG k) 32 [.i i] (bG {k with fate:=i}):=⟨rfl,by show 33<=33;decide,λv h=>by simp at h;subst h;rfl⟩
instance:Wr (bG k) 30 [.i i] (bG {k with move:={k.move with ay:=i}}):=⟨rfl,by show 31<=33;decide,λv h=>by simp at h;subst h;rfl⟩
instance:Wr (bG k) 31 [.i i] (bG {k with move:={k.move with jj:=i}}):=⟨rfl,by show 32<=33;decide,λv h=>by simp at h;subst h;rfl⟩
instance:Sub (bG k) 16 2 (nm k.move.id):=⟨zb rfl rfl⟩
instance:Wr [x1,x2,x3,x4,x5,x6,x7,x8,x9,DO,DN,DM,DL,HT,L5,L4,XH,XG,YT,YR,YQ,YP,YO,YN,YM,YL,YK,YJ,x29,x30,x31,x32,x33] 0 (aL m++(aL t++[.i i])) (bG ⟨m,t,i⟩):=⟨rfl,aG _,mC ⟨m,t,i⟩⟩
end
class US(M L:LH):Prop where
 is:M.Sublist L
instance{L:LH}:US L L:=⟨ba.refl _⟩
instance(priority:=low){M L:LH}{A:HP}[h:US M L]:US M (A::L):=⟨h.is.cons A⟩
instance{M L:LH}{A:HP}[h:US M L]:US (A::M) (A::L):=⟨h.is.cons_cons A⟩
instance{R L:LH}[h:US R L]:US ([]++R) L:=⟨h.is⟩
instance{M R L:LH}{A:HP}[h:US (A::(M++R)) L]:US (A::M++R) L:=⟨h.is⟩
def qv{M L:LH}[h:US M L]:M.Sublist L:=h.is
def T.sub{W:World}{L M:LH}{X:WK}(h:T W M X)(s:M.Sublist L):T W L X:=by
 obtain⟨D,hD⟩:=s.exists_perm_append;have key:∀(D:LH),T W (D++M) X:=λD=>by
  induction D with
  |nil=>exact h
  |cons A D ih=>exact T.drop ih
 exact T.perm (key D) (hD.trans bu)
def sj{α:Type}(g:α->LV)(e l:Nat)(x:Nat×List α):HP:=
 Ra λz:OA×Nat=>vH [Sep.pt l [.l z.1 x.2.length z.2,.p (some (ad x.1 0))],own z.1 x.2.length z.2 e (x.2.flatMap g)]
def rB{W:World}{L:LH}{α:Type}{b b':OA}{n c m c1 e bytes:Nat}{zero:LV}{l0 l1:List α}{g:α->LV}{f f':HP->LH}{K:OA->Nat->Nat->WK}[i:ux b n c L e (l0.flatMap g) f][j:ux b' m c1 L e (l1.flatMap g) f'](hg:∀x,(g x).length=e)(hz:zero.length=e)
 (hb:(n+m)* bytes<=140737488355328/\n+m<=9223372036854775807)(h1:∀x,∀v∈g x,v.oneCell'=true)(h:∀b2 c2,T W (f (own b2 (n+m) c2 e ((l0++l1).flatMap g))) (K b2 (n+m) c2)):T W L (gY e bytes zero b n c b' m K):=λw hs=>by
 obtain⟨k,hk,e1⟩:=i.at_;obtain⟨k2,rq,_⟩:=j.at_;obtain⟨zS,oC⟩:=Pe (m:=m) hs rq;refine uv hs hk zS oC hz hb.1 hb.2 (λv hv=>?_) λb2 c2 w' h'=>h b2 c2 w' (by rw[e1,fQ];exact h');obtain⟨x,_,hx⟩:=List.mem_flatMap.1 hv;exact h1 x v hx
section
variable {W:World} {L R:LH} {K:VK} {X:WK} {α:Type} {g:α->LV} {e l p:Nat} {items:List α} {f:Nat×List α->LH}
def rI(h:∀b c,T W (Sep.pt l [.l b items.length c,.p (some (ad p 0))]::own b items.length c e (items.flatMap g)::R) X):T W (sj g e l (p,items)::R) X:=λw hs=>by
 obtain⟨⟨b,c⟩,hs⟩:=hs.ex;exact h b c w (St.ss _ _ hs)
def uh{b:OA}{n c:Nat}(hn:n=items.length)(h:T W (sj g e l (p,items)::R) X):T W (Sep.pt l [.l b n c,.p (some (ad p 0))]::own b n c e (items.flatMap g)::R) X:=λw hs=>by
 subst hn;exact h w (St.qB (b,c) (St.qR _ _ hs))
def wV{M:LH}{b:OA}{n c:Nat}(hn:n=items.length)(h:T W (M++sj g e l (p,items)::R) X):T W (M++Sep.pt l [.l b n c,.p (some (ad p 0))]::own b n c e (items.flatMap g)::R) X:=
 T.perm (uh (g:=g) (e:=e) (l:=l) (p:=p) (R:=M++R) hn (T.perm h iy.symm)) (by
  have:=bu (l₁:=M) (l₂:=[Sep.pt l [.l b n c,.p (some (ad p 0))],own b n c e (items.flatMap g)])|>.append_right R
  simpa using this)
def GN[i:Lc (sj g e l) L (p,items) f](h:∀b c R,(∀M b' n' c' EW Y,n'=EW.length->T W (M++f (p,EW)) Y->T W (M++Sep.pt l [.l b' n' c',.p (some (ad p 0))]::own b' n' c' e (EW.flatMap g)::R) Y)->
 T W (Sep.pt l [.l b items.length c,.p (some (ad p 0))]::own b items.length c e (items.flatMap g)::R) X):T W L X:=
 Db (P:=sj g e l) λR hc=>rI λb c=>h b c R λM b' n' c' EW Y hn hy=>
  T.perm (uh (g:=g) (e:=e) (l:=l) (p:=p) (R:=M++R) hn (T.perm (hc M _ Y hy) iy.symm)) (by
   have:=bu (l₁:=M) (l₂:=[Sep.pt l [.l b' n' c',.p (some (ad p 0))],own b' n' c' e (EW.flatMap g)])|>.append_right R
   simpa using this)
end
section
variable {W:World} {L R:LH} {K:VK} {X:WK} {l p:Nat} {items:List bC} {f:Nat×List bC->LH} {F:Nat×List bC->Core->LH} {q:Core} {x y:bC}
def NG[i:Lc (sj aK 14 l) L (p,items) f](h:T W L (K (.i (items.length:Int)))):T W L (fP (ah l) K):=by
 have hL:f (p,items)=L:=i.same;refine GN (g:=aK) (e:=14) (l:=l) λb c R hc=>?_;unfold fP;apply ws;exact hc [] _ _ _ _ _ rfl (by rw[hL];exact h)
def Ut{b:OA}{c:Nat}{v:Value}{n:Nat}{f1:LV->LH}{f2:HP->LH}[i:Lc (Sep.pt l) L [.l b items.length c,v] f1][j:ux b items.length c L 14 (items.flatMap aK) f2](hx:items[n]?=some x)(hl:items.length<1000000)
 (h:T W L (K (.tuple ⟨[.agg ⟨aK x⟩,.b true]⟩))):T W L (dL (ah l) (n:Int) K):=by
 have cf:=(aw.1 hx).1;unfold dL;apply ws;intros;refine gL (by simp) ?_;unfold fP;apply ws;unfold dL.j1;refine gL (by simp;omega) ?_;apply ws;refine dM ⟨by omega,by omega⟩ λr hr=>?_;subst hr;rw[ao];refine gI jx hx ?_;apply ws;exact T.dp h
def adJ[i:Lc (sj aK 14 l) L (p,items) f]{n:Nat}(hx:items[n]?=some x)(hl:items.length<1000000)(h:T W L (K (.tuple ⟨[.agg ⟨aK x⟩,.b true]⟩))):T W L (dL (ah l) (n:Int) K):=by
 have hL:f (p,items)=L:=i.same;refine GN (g:=aK) (e:=14) (l:=l) λb c R hc=>?_;refine Ut hx hl ?_;exact hc [] _ _ _ _ _ rfl (by rw[hL];exact h)
abbrev Bc(r1 r3:Nat):Value:=.func (.func N.cA) ⟨[]⟩ ⟨[.p (some (ad r1 0)),.p (some (ad r3 0))]⟩
abbrev DA(r4 r1 r2:Nat):Value:=.func (.func N.cz) ⟨[]⟩ ⟨[.p (some (ad r4 0)),.p (some (ad r1 0)),.p (some (ad r2 0))]⟩
def Uu[i:Lc (sj aK 14 l) L (p,items) f][j:UT (sj aK 14 l) (gM p) L (p,items) q F](hl:items.length<1000000)(hv:q.vs.length<1000000)
 (h:∀r1 r3,T W (Sep.pt r3 [.i (items.length:Int)]::Sep.pt r1 [.p (some (ad l 0))]::F (p,items++[x]) {q with vs:=q.vs++[Bc r1 r3]}) (K (.i (items.length:Int)))):
 T W L (iK (ah l) (aK x) K):=by
 refine Dc (P:=sj aK 14 l) (Q:=gM p) λR hc=>?_;refine rI λb c=>?_;unfold iK;apply ws;intros;refine jm (x:=x) (by simp) rfl rfl (by omega) (by omega) (iv _) λb' c'=>?_;apply ws;refine vP (p:=p) hv rfl rfl ?_;apply ws;rename_i r1 r2 r3 r4;refine T.sub (M:=[Sep.pt r3 _,Sep.pt r1 _]++Sep.pt l _::own b' _ c' 14 _::gM p _::R) ?_ (by repeat (first|exact ba.refl _|apply ba.cons_cons|apply ba.cons));exact wV (by simp) (hc [_,_] _ _ _ (h r1 r3))
def aa6[i:Lc (sj aK 14 l) L (p,items) f][j:UT (sj aK 14 l) (gM p) L (p,items) q F]{n:Nat}(hx:items[n]?=some y)(hl:items.length<1000000)(hv:q.vs.length<1000000)
 (h:∀r4 r1 r2,T W (Sep.pt r4 (aK y)::Sep.pt r2 [.i (n:Int)]::Sep.pt r1 [.p (some (ad l 0))]::F (p,items.set n x) {q with vs:=q.vs++[DA r4 r1 r2]}) (K (.b true))):
 T W L (ke (ah l) (n:Int) (aK x) K):=by
 have cf:=(aw.1 hx).1;refine Dc (P:=sj aK 14 l) (Q:=gM p) λR hc=>?_;refine rI λb c=>?_;unfold ke
 repeat' first|apply ws;intros|apply wb|refine Ut hx hl ?_
 refine dM ⟨by omega,by omega⟩ λr hr=>?_;subst hr;rw[ao];refine dD rfl (qP jx cf (iv _) ?_);apply ws;refine vP (p:=p) hv rfl rfl ?_;apply ws;rename_i r1 r2 r3 r4;refine T.sub (M:=[Sep.pt r4 _,Sep.pt r2 _,Sep.pt r1 _]++Sep.pt l _::own (ah r) _ c 14 _::gM p _::R) ?_ (by repeat (first|exact ba.refl _|apply ba.cons_cons|apply ba.cons));exact wV (by simp) (hc [_,_,_] _ _ _ (h r4 r1 r2))
def aa7[i:Lc (sj aK 14 l) L (p,items) f](hl:items.length<1000000)(h:∀b c,T W (own b items.length c 14 (items.flatMap aK)::L) (K (.l b items.length c))):T W L (kf (ah l) K):=by
 have hL:f (p,items)=L:=i.same;refine GN (g:=aK) (e:=14) (l:=l) λb c R hc=>?_;unfold kf;apply ws;refine gZ (e:=14) ?_;refine rB (b:=none) (l0:=([]:List bC)) (l1:=items) jx rfl (by omega) iv λb' c'=>?_;have:=hc [own b' items.length c' 14 (items.flatMap aK)] b items.length c items _ rfl (by rw[hL];exact h b' c');simpa using this
end
section
variable {W:World} {L R:LH} {K:VK} {X:WK} {l p:Nat} {items:List bW} {f:Nat×List bW->LH} {F:Nat×List bW->Core->LH} {q:Core} {x y:bW}
def Nw[i:Lc (sj bG 33 l) L (p,items) f](h:T W L (K (.i (items.length:Int)))):T W L (fW (ah l) K):=by
 have hL:f (p,items)=L:=i.same;refine GN (g:=bG) (e:=33) (l:=l) λb c R hc=>?_;unfold fW;apply ws;exact hc [] _ _ _ _ _ rfl (by rw[hL];exact h)
def Uk{b:OA}{c:Nat}{v:Value}{n:Nat}{f1:LV->LH}{f2:HP->LH}[i:Lc (Sep.pt l) L [.l b items.length c,v] f1][j:ux b items.length c L 33 (items.flatMap bG) f2](hx:items[n]?=some x)(hl:items.length<1000000)
 (h:T W L (K (.tuple ⟨[.agg ⟨bG x⟩,.b true]⟩))):T W L (dJ (ah l) (n:Int) K):=by
 have cf:=(aw.1 hx).1;unfold dJ;apply ws;intros;refine gL (by simp) ?_;unfold fW;apply ws;unfold dJ.j1;refine gL (by simp;omega) ?_;apply ws;refine dM ⟨by omega,by omega⟩ λr hr=>?_;subst hr;rw[ao];refine gI we hx ?_;apply ws;exact T.dp h
def Uj[i:Lc (sj bG 33 l) L (p,items) f]{n:Nat}(hx:items[n]?=some x)(hl:items.length<1000000)(h:T W L (K (.tuple ⟨[.agg ⟨bG x⟩,.b true]⟩))):T W L (dJ (ah l) (n:Int) K):=by
 have hL:f (p,items)=L:=i.same;refine GN (g:=bG) (e:=33) (l:=l) λb c R hc=>?_;refine Uk hx hl ?_;exact hc [] _ _ _ _ _ rfl (by rw[hL];exact h)
abbrev vo(r1 r3:Nat):Value:=.func (.func N.cV) ⟨[]⟩ ⟨[.p (some (ad r1 0)),.p (some (ad r3 0))]⟩
abbrev Bb(r4 r1 r2:Nat):Value:=.func (.func N.cU) ⟨[]⟩ ⟨[.p (some (ad r4 0)),.p (some (ad r1 0)),.p (some (ad r2 0))]⟩
def Ul[i:Lc (sj bG 33 l) L (p,items) f][j:UT (sj bG 33 l) (gM p) L (p,items) q F](hl:items.length<1000000)(hv:q.vs.length<1000000)
 (h:∀r1 r3,T W (Sep.pt r3 [.i (items.length:Int)]::Sep.pt r1 [.p (some (ad l 0))]::F (p,items++[x]) {q with vs:=q.vs++[vo r1 r3]}) (K (.i (items.length:Int)))):
 T W L (jG (ah l) (bG x) K):=by
 refine Dc (P:=sj bG 33 l) (Q:=gM p) λR hc=>?_;refine rI λb c=>?_;unfold jG;apply ws;intros;refine jm (x:=x) (by simp) rfl rfl (by omega) (by omega) (mC _) λb' c'=>?_;apply ws;refine vP (p:=p) hv rfl rfl ?_;apply ws;rename_i r1 r2 r3 r4;refine T.sub (M:=[Sep.pt r3 _,Sep.pt r1 _]++Sep.pt l _::own b' _ c' 33 _::gM p _::R) ?_ (by repeat (first|exact ba.refl _|apply ba.cons_cons|apply ba.cons));exact wV (by simp) (hc [_,_] _ _ _ (h r1 r3))
def aa0[i:Lc (sj bG 33 l) L (p,items) f][j:UT (sj bG 33 l) (gM p) L (p,items) q F]{n:Nat}(hx:items[n]?=some y)(hl:items.length<1000000)(hv:q.vs.length<1000000)
 (h:∀r4 r1 r2,T W (Sep.pt r4 (bG y)::Sep.pt r2 [.i (n:Int)]::Sep.pt r1 [.p (some (ad l 0))]::F (p,items.set n x) {q with vs:=q.vs++[Bb r4 r1 r2]}) (K (.b true))):
 T W L (lV (ah l) (n:Int) (bG x) K):=by
 have cf:=(aw.1 hx).1;refine Dc (P:=sj bG 33 l) (Q:=gM p) λR hc=>?_;refine rI λb c=>?_;unfold lV
 repeat' first|apply ws;intros|apply wb|refine Uk hx hl ?_
 refine dM ⟨by omega,by omega⟩ λr hr=>?_;subst hr;rw[ao];refine dD rfl (qP we cf (mC _) ?_);apply ws;refine vP (p:=p) hv rfl rfl ?_;apply ws;rename_i r1 r2 r3 r4;refine T.sub (M:=[Sep.pt r4 _,Sep.pt r2 _,Sep.pt r1 _]++Sep.pt l _::own (ah r) _ c 33 _::gM p _::R) ?_ (by repeat (first|exact ba.refl _|apply ba.cons_cons|apply ba.cons));exact wV (by simp) (hc [_,_,_] _ _ _ (h r4 r1 r2))
def aa1[i:Lc (sj bG 33 l) L (p,items) f](hl:items.length<1000000)(h:∀b c,T W (own b items.length c 33 (items.flatMap bG)::L) (K (.l b items.length c))):T W L (lW (ah l) K):=by
 have hL:f (p,items)=L:=i.same;refine GN (g:=bG) (e:=33) (l:=l) λb c R hc=>?_;unfold lW;apply ws;refine gZ (e:=33) ?_;refine rB (b:=none) (l0:=([]:List bW)) (l1:=items) we rfl (by omega) mC λb' c'=>?_;have:=hc [own b' items.length c' 33 (items.flatMap bG)] b items.length c items _ rfl (by rw[hL];exact h b' c');simpa using this
end
def vO(bx:List (Nat×LV)):HP:=vH (bx.map λx=>Sep.pt x.1 x.2)
def St.RX{W w:World}{M R:LH}{A:HP}(h:St W w (vH M::R))(hm:A∈M):∃R',St W w (A::R')/\∀w',St W w' (A::R')->St W w' (vH M::R):=by
 obtain⟨k,hk⟩:=qj hm;have p:=sS hk;exact⟨M.eraseIdx k++R,(St.ss M R h).perm (p.append_right R),λw' h'=>St.qR M R (h'.perm (p.symm.append_right R))⟩
section
variable {W:World} {L:LH} {K:VK} {X:WK} {r o n:Nat} {cs xs:LV} {v:Value} {bx:List (Nat×LV)} {f:List (Nat×LV)->LH}
def Fx(hm:(r,cs)∈bx)[i:Lc vO L bx f]{w:World}(hs:St W w L):∃R,St W w (Sep.pt r cs::R):=by
 obtain⟨k,hk,_⟩:=i.at_;obtain⟨R,h1,_⟩:=St.RX (M:=bx.map λx=>Sep.pt x.1 x.2) (hs.focus hk) (cw.2 ⟨(r,cs),hm,rfl⟩);exact⟨R,h1⟩
def sf[i:Lc vO L bx f](hm:(r,cs)∈bx)(hv:cs[o]?=some v)(h:T W L (K v)):T W L (ld ⟨r,o,none⟩ K):=λw hs=>by
 obtain⟨R,hr⟩:=Fx hm hs;exact cT hr (k:=0) rfl hv (h w hs)
def D7[i:Lc vO L bx f](hm:(r,cs)∈bx)(hv:cs[o]?=some v)(h:T W L X):T W L (kp ⟨r,o,none⟩ [v] X):=λw hs=>by
 obtain⟨R,hr⟩:=Fx hm hs;exact ka hr (k:=0) rfl hv (h w hs)
def D0{K:LV->WK}[i:Lc vO L bx f](hm:(r,cs)∈bx)[s:Sub cs o n xs](h:T W L (K xs)):T W L (aI ⟨r,o,none⟩ n K):=λw hs=>by
 obtain⟨R,hr⟩:=Fx hm hs;exact jQ hr (k:=0) rfl s.is.1 s.is.2 (h w hs)
def eL[i:Lc vO L bx f](h:T W (f ((r,cs)::bx)) X):T W (Sep.pt r cs::L) X:=by
 obtain⟨R,h1,h2⟩:=i.perm;refine T.perm (λw hs=>?_) (h1.cons _);refine T.perm h (h2 _).symm w (St.qR (((r,cs)::bx).map λx=>Sep.pt x.1 x.2) R ?_);exact(St.ss (bx.map λx=>Sep.pt x.1 x.2) (Sep.pt r cs::R) (hs.perm (bU.swap _ _ _))).perm iy
end
structure C where
 aB:List bC
 ax:List bW
 po:(Nat->Option Int)×Nat
 ib:(Nat->Option Int)×Nat
 dG:List nN
 ends:List Item
 clock:Int
 ay:Int
abbrev As(a:Nat):Value:=.func (.func N.ef) ⟨[]⟩ ⟨[.p (some (ad a 0))]⟩
abbrev XJ(a a2:Nat):Value:=.func (.func N.eg) ⟨[]⟩ ⟨[.p (some (ad a 0)),.p (some (ad a2 0))]⟩
abbrev Rw(a a2:Nat):Value:=.func (.func N.eu) ⟨[]⟩ ⟨[.p (some (ad a 0)),.p (some (ad a2 0))]⟩
abbrev DV(a a2 a3:Nat):Value:=.func (.func N.eE) ⟨[]⟩ ⟨[.p (some (ad a 0)),.p (some (ad a2 0)),.p (some (ad a3 0))]⟩
abbrev L9(a a2:Nat):Value:=.func (.func N.eB) ⟨[]⟩ ⟨[.p (some (ad a 0)),.p (some (ad a2 0))]⟩
abbrev YX(a a2:Nat):Value:=.func (.func N.eX) ⟨[]⟩ ⟨[.p (some (ad a 0)),.p (some (ad a2 0))]⟩
inductive CV(p la lk:Nat)(bx:List (Nat×LV)):Value->C->C->Prop
 |next {c:C} {a:Nat} {s:Int} (h1:(a,[.pointer (some (ad p 0))])∈bx) (hs:aa.wrap (c.ay-1)=s):CV p la lk bx (As a) c {c with ay:=s}
 |time {c:C} {a a2:Nat} {t:Int} (h1:(a,[.int .i64 t])∈bx) (h2:(a2,[.pointer (some (ad p 0))])∈bx):CV p la lk bx (XJ a a2) c {c with clock:=t}
 |open_ {c:C} {a a2:Nat} {x:bC} {m:(Nat->Option Int)×Nat} (h1:(a,[.pointer (some (ad p 0))])∈bx) (h2:(a2,aK x)∈bx) (hu:c.po.2<=1000) (hi:(c.po.1 x.id).isSome=true) (hm:(wE c.po.1 x.id none,c.po.2-1)=m):
  CV p la lk bx (Rw a a2) c {c with po:=m}
 |Xn {c:C} {a a2 n:Nat} (h1:(a,[.pointer (some (ad la 0))])∈bx) (h2:(a2,[.int .i64 (n:Int)])∈bx) (hn:n<=c.aB.length):CV p la lk bx (Bc a a2) c {c with aB:=c.aB.take n}
 |Xm {c:C} {a a2 n:Nat} (h1:(a,[.pointer (some (ad lk 0))])∈bx) (h2:(a2,[.int .i64 (n:Int)])∈bx) (hn:n<=c.ax.length):CV p la lk bx (vo a a2) c {c with ax:=c.ax.take n}
 |Vb {c:C} {a1 a2 a3 n:Nat} {x:bC} (h1:(a1,aK x)∈bx) (h2:(a2,[.pointer (some (ad la 0))])∈bx) (h3:(a3,[.int .i64 (n:Int)])∈bx) (hn:n<c.aB.length):CV p la lk bx (DA a1 a2 a3) c {c with aB:=c.aB.set n x}
 |Va {c:C} {a1 a2 a3 n:Nat} {x:bW} (h1:(a1,bG x)∈bx) (h2:(a2,[.pointer (some (ad lk 0))])∈bx) (h3:(a3,[.int .i64 (n:Int)])∈bx) (hn:n<c.ax.length):CV p la lk bx (Bb a1 a2 a3) c {c with ax:=c.ax.set n x}
 |Oz {c:C} {a a2 a3:Nat} {t:cE} {k:bW} {l0:List nN} {at_:Int} {m:(Nat->Option Int)×Nat} (h1:(a,[.pointer (some (ad p 0))])∈bx) (h2:(a2,aL t)∈bx) (h3:(a3,bG k)∈bx)
  (hu:c.ib.2<=1000) (hi:(c.ib.1 t.id).isSome=true) (hr:sG c.dG) (hl:c.dG.length<100000) (hs:c.dG=l0++[(k.move.ay,at_)]) (hm:(wE c.ib.1 t.id none,c.ib.2-1)=m):
  CV p la lk bx (DV a a2 a3) c {c with ib:=m,dG:=l0}
 |Oy {c:C} {a a2:Nat} {x:Item} {e':List Item} (h1:(a,[.pointer (some (ad p 0))])∈bx) (h2:(a2,gA x)∈bx) (hl:c.ends.length<10000) (he:(x::e').Perm c.ends) (hn:∀y∈e',y.ay≠x.ay):
  CV p la lk bx (L9 a a2) c {c with ends:=e'}
 |end_ {c:C} {a a2:Nat} {x:Item} {e':List Item} (h1:(a,[.pointer (some (ad p 0))])∈bx) (h2:(a2,gA x)∈bx) (hl:c.ends.length<10000) (he:e'.Perm (c.ends++[x])):CV p la lk bx (YX a a2) c {c with ends:=e'}
def CV.mono{p la lk:Nat}{bx oe:List (Nat×LV)}{v:Value}{c c':C}(h:CV p la lk bx v c c')(hs:∀x∈bx,x∈oe):CV p la lk oe v c c':=by
 cases h with
 |next h1 h2=>exact .next (hs _ h1) h2
 |time h1 h2=>exact .time (hs _ h1) (hs _ h2)
 |open_ h1 h2 h3 h4 h5=>exact .open_ (hs _ h1) (hs _ h2) h3 h4 h5
 |Xn h1 h2 h3=>exact .Xn (hs _ h1) (hs _ h2) h3
 |Xm h1 h2 h3=>exact .Xm (hs _ h1) (hs _ h2) h3
 |Vb h1 h2 h3 h4=>exact .Vb (hs _ h1) (hs _ h2) (hs _ h3) h4
 |Va h1 h2 h3 h4=>exact .Va (hs _ h1) (hs _ h2) (hs _ h3) h4
 |Oz h1 h2 h3 h4 h5 h6 h7 h8 h9=>exact .Oz (hs _ h1) (hs _ h2) (hs _ h3) h4 h5 h6 h7 h8 h9
 |Oy h1 h2 h3 h4 h5=>exact .Oy (hs _ h1) (hs _ h2) h3 h4 h5
 |end_ h1 h2 h3 h4=>exact .end_ (hs _ h1) (hs _ h2) h3 h4
def jV(p la lk:Nat)(bx:List (Nat×LV)):LV->List C->C->Prop
 |[],[],_=>True
 |v::vs,c'::hs,c=>CV p la lk bx v c c'/\jV p la lk bx vs hs c'
 |_,_,_=>False
def jV.mono{p la lk:Nat}{bx oe:List (Nat×LV)}(hs:∀x∈bx,x∈oe):∀{vs:LV} {h:List C} {c:C},jV p la lk bx vs h c->jV p la lk oe vs h c
 |[],[],_,_=>trivial
 |v::vs,c'::h,c,hc=>⟨hc.1.mono hs,jV.mono hs hc.2⟩
def jV.len{p la lk:Nat}{bx:List (Nat×LV)}:∀{vs:LV} {h:List C} {c:C},jV p la lk bx vs h c->vs.length=h.length
 |[],[],_,_=>rfl
 |v::vs,c'::h,c,hc=>by simp[jV.len hc.2]
abbrev gp(la lk ti tn:Nat)(vs:LV)(c:C):Core:=⟨la,lk,ti,tn,vs.reverse,c.dG,c.ends,c.clock,c.ay⟩
def JZ(p la lk ti tn:Nat)(vs:LV)(bx:List (Nat×LV))(c:C)(R:LH):LH:=
 gM p (gp la lk ti tn vs c)::sj aK 14 la (p,c.aB)::sj bG 33 lk (p,c.ax)::oV ti c.po::oV tn c.ib::vO bx::R
section
variable {W:World} {R:LH} {K:VK} {X:WK} {p la lk ti tn:Nat} {vs:LV} {bx:List (Nat×LV)} {c c':C} {v:Value}
def adz:F1:=[(N.eX,eX.u),(N.eE,eE.u),(N.eB,eB.u),(N.eu,eu.u),(N.eg,eg.u),(N.ef,ef.u),(N.cA,cA.u),(N.cz,cz.u),(N.cV,cV.u),(N.cU,cU.u)]
def T.HJ{q:Core}{e e':List Item}(he:e.Perm e')(h:T W (gM p {q with ends:=e'}::R) X):T W (gM p {q with ends:=e}::R) X:=
 HK λb1 c1 b2 c2 b3 c3 hp h1 h2=>Ab (q:={q with ends:=e'}) h1 (h2.trans he) h
def T.Mo{A B:HP}(h:T W (B::A::R) X):T W (A::B::R) X:=T.perm h (bU.swap _ _ _)
def T.XV{A B:HP}(h:T W (A::B::R) X):T W (B::A::R) X:=T.perm h (bU.swap _ _ _)
def T.Zo{A B D:HP}(h:T W (D::A::B::R) X):T W (A::B::D::R) X:=T.XX (R:=R) h
def T.XU{A B D:HP}(h:T W (A::B::D::R) X):T W (D::A::B::R) X:=T.XW (R:=R) h
def GH{x y:Item}{e' e2 e:List Item}(h1:(x::e').Perm e)(h2:(y::e2).Perm e)(hy:y.ay=x.ay)(hn:∀z∈e',z.ay≠x.ay):e2.Perm e':=by
 have:y∈x::e':=h1.mem_iff.2 (h2.mem_iff.1 (by simp));rcases jB.1 this with rfl|hm
 ·exact(List.perm_cons y).1 (h2.trans h1.symm)
 ·exact aT hy (hn y hm)
def abx(hc:CV p la lk bx v c c')(h:T W (JZ p la lk ti tn vs bx c' R) (K (.tuple ⟨[]⟩))):T W (JZ p la lk ti tn vs bx c R) (xN adz v [] K):=by
 unfold JZ at *;cases hc with
 |next h1 hs=>
  rename_i a s;show T W _ (ef (ad a 0) K);unfold ef
  repeat' first|apply ws|apply wb|first|refine sf h1 rfl ?_|refine Mc ?_
  rw[show aa.wrap ((gp la lk ti tn vs c).ay-1)=s from hs];exact h
 |time h1 h2=>
  rename_i a a2 t;show T W _ (eg (ad a 0) (ad a2 0) K);unfold eg
  repeat' first|apply ws|apply wb|first|refine sf h2 rfl ?_|refine sf h1 rfl ?_|refine Me ?_
  exact h
 |open_ h1 h2 h3 h4 h5=>
  rename_i a a2 x m;show T W _ (eu (ad a 0) (ad a2 0) K);unfold eu
  repeat' first|apply ws|apply wb|first|refine sf h1 rfl ?_|refine D7 h1 rfl ?_
  refine D0 h2 ?_;refine Uq h3 (λ_=>?_) (λhn=>by rw[hn] at h4;cases h4)
  repeat' first|apply ws|apply wb|refine D7 h1 rfl ?_
  rw[h5];exact h
 |Xn h1 h2 h3=>
  rename_i a a2 n;show T W _ (cA (ad a 0) (ad a2 0) K);refine T.Mo ?_;refine rI λb cc=>?_;unfold cA
  repeat' first|apply ws|apply wb|first|refine sf h1 rfl ?_|refine sf h2 rfl ?_
  refine qJ (b:=b) λu1 _=>?_;refine zD (by omega) ?_;refine Au (b:=b) (i:=n) jx (by omega) ?_;apply ws;exact uh (g:=aK) (e:=14) (by rw[aD];omega) (T.XV h)
 |Xm h1 h2 h3=>
  rename_i a a2 n;show T W _ (cV (ad a 0) (ad a2 0) K);refine T.Zo ?_;refine rI λb cc=>?_;unfold cV
  repeat' first|apply ws|apply wb|first|refine sf h1 rfl ?_|refine sf h2 rfl ?_
  refine qJ (b:=b) λu1 _=>?_;refine zD (by omega) ?_;refine Au (b:=b) (i:=n) we (by omega) ?_;apply ws;exact uh (g:=bG) (e:=33) (by rw[aD];omega) (T.XU h)
 |Vb h1 h2 h3 h4=>
  rename_i a1 a2 a3 n x;show T W _ (cz (ad a1 0) (ad a2 0) (ad a3 0) K);refine T.Mo ?_;refine rI λb cc=>?_;unfold cz
  repeat' first|apply ws|apply wb|first|refine sf h2 rfl ?_|refine sf h3 rfl ?_
  refine D0 h1 ?_;refine dM ⟨by omega,by omega⟩ λr hr=>?_;subst hr;rw[ao];refine dD rfl (qP jx h4 (iv _) ?_);exact uh (g:=aK) (e:=14) (by simp) (T.XV h)
 |Va h1 h2 h3 h4=>
  rename_i a1 a2 a3 n x;show T W _ (cU (ad a1 0) (ad a2 0) (ad a3 0) K);refine T.Zo ?_;refine rI λb cc=>?_;unfold cU
  repeat' first|apply ws|apply wb|first|refine sf h2 rfl ?_|refine sf h3 rfl ?_
  refine D0 h1 ?_;refine dM ⟨by omega,by omega⟩ λr hr=>?_;subst hr;rw[ao];refine dD rfl (qP we h4 (mC _) ?_);exact uh (g:=bG) (e:=33) (by simp) (T.XU h)
 |Oz h1 h2 h3 h4 h5 h6 h7 h8 h9=>
  rename_i a a2 a3 t k l0 at_ m;show T W _ (eE (ad a 0) (ad a2 0) (ad a3 0) K);unfold eE
  repeat' first|apply ws|apply wb|first|refine sf h1 rfl ?_|refine D7 h1 rfl ?_
  refine D0 h2 ?_;refine Uq h4 (λ_=>?_) (λhn=>by rw[hn] at h5;cases h5)
  repeat' first|apply ws|apply wb|first|refine sf h1 rfl ?_|refine D7 h1 rfl ?_|refine sf h3 rfl ?_
  simp only[gN,aC];refine TF (p:=p) (q:=gp la lk ti tn vs c) h6 (by show c.dG.length<_;omega) h8 ?_
  repeat' first|apply ws|apply wb|refine D7 h1 rfl ?_
  rw[h9];exact h
 |Oy h1 h2 h3 h4 h5=>
  rename_i a a2 x e';show T W _ (eB (ad a 0) (ad a2 0) K);unfold eB
  repeat' first|apply ws|apply wb|first|refine sf h1 rfl ?_|refine sf h2 rfl ?_
  simp only[gN,aC];refine La (p:=p) (q:=gp la lk ti tn vs c) h3 (λy e2 hy hp=>?_) (λFZ=>aT rfl (FZ x (h4.mem_iff.1 (by simp))))
  repeat' first|apply ws|apply wb|refine D7 h1 rfl ?_
  exact T.HJ (GH h4 hp hy h5) h
 |end_ h1 h2 h3 h4=>
  rename_i a a2 x e';show T W _ (eX (ad a 0) (ad a2 0) K);unfold eX
  repeat' first|apply ws|apply wb|refine sf h1 rfl ?_
  refine D0 h2 ?_;simp only[gN,aC];refine IY (p:=p) (q:=gp la lk ti tn vs c) h3 h4 ?_
  repeat' first|apply ws|apply wb|refine D7 h1 rfl ?_
  exact h
end
structure agZ where
 la:Nat
 lk:Nat
 ti:Nat
 tn:Nat
def cP(p:Nat)(x:C×List C):HP:=
 Ra λz:agZ×LV×List (Nat×LV)=>FC (jV p z.1.la z.1.lk z.2.2 z.2.1 x.2 x.1) (vH (JZ p z.1.la z.1.lk z.1.ti z.1.tn z.2.1 z.2.2 x.1 []))
section
variable {W:World} {L R:LH} {K:VK} {X:WK} {p:Nat} {c:C} {hs:List C} {f:C×List C->LH}
def TL(h:∀la lk ti tn vs bx,jV p la lk bx vs hs c->T W (gM p (gp la lk ti tn vs c)::sj aK 14 la (p,c.aB)::sj bG 33 lk (p,c.ax)::oV ti c.po::oV tn c.ib::vO bx::R) X):T W (cP p (c,hs)::R) X:=λw hw=>by
 obtain⟨⟨⟨la,lk,ti,tn⟩,vs,bx⟩,hw⟩:=hw.ex;obtain⟨hc,hw⟩:=hw.and;exact h la lk ti tn vs bx hc w (St.ss _ _ hw)
def DC{la lk ti tn:Nat}{vs:LV}{bx:List (Nat×LV)}(hc:jV p la lk bx vs hs c)(h:T W (cP p (c,hs)::R) X):
 T W (gM p (gp la lk ti tn vs c)::sj aK 14 la (p,c.aB)::sj bG 33 lk (p,c.ax)::oV ti c.po::oV tn c.ib::vO bx::R) X:=λw hw=>
 h w (St.qB (⟨la,lk,ti,tn⟩,vs,bx) (St.and_intro hc (St.qR _ _ hw)))
def t_c[i:Lc (cP p) L (c,hs) f](h:∀la lk ti tn vs bx R,jV p la lk bx vs hs c->
 (∀M c' ft F5 oe Y,jV p la lk oe F5 ft c'->T W (M++f (c',ft)) Y->T W (M++gM p (gp la lk ti tn F5 c')::sj aK 14 la (p,c'.aB)::sj bG 33 lk (p,c'.ax)::oV ti c'.po::oV tn c'.ib::vO oe::R) Y)->
 T W (gM p (gp la lk ti tn vs c)::sj aK 14 la (p,c.aB)::sj bG 33 lk (p,c.ax)::oV ti c.po::oV tn c.ib::vO bx::R) X):T W L X:=
 Db (P:=cP p) λR pG=>TL λla lk ti tn vs bx hc=>h la lk ti tn vs bx R hc λM c' ft F5 oe Y KQ hy=>
  T.perm (DC (R:=M++R) KQ (T.perm (pG M (c',ft) Y hy) iy.symm)) (by
   have:=bu (l₁:=M) (l₂:=[gM p (gp la lk ti tn F5 c'),sj aK 14 la (p,c'.aB),sj bG 33 lk (p,c'.ax),oV ti c'.po,oV tn c'.ib,vO oe])|>.append_right R
   simpa using this)
def Bu{b:OA}{n c e i:Nat}{xs:LV}{f:HP->LH}[j:ux b n c L e xs f](hi:i<=n)(h:T W (f (own b i c e (xs.take (i* e)))) X):T W L X:=λw hs=>by
 obtain⟨k,hk,e1⟩:=j.at_;refine h w ?_;rw[e1];exact St.rA ((hs.focus hk).mono (EE hi)) hk
def RG{r n c e o:Nat}{xs:LV}{v:Value}{f:HP->LH}[j:ux (ah r) n c L e xs f](hv:xs[o]?=some v)(h:T W L (K v)):T W L (ld ⟨r,o,none⟩ K):=λw hs=>by
 obtain⟨k,hk,_⟩:=j.at_;exact zR hs hk hv (h w hs)
def RJ{b:OA}{n c e:Nat}{xs ys:LV}{f:HP->LH}[j:ux b n c L e xs f](hl:ys.length=xs.length)(h1:∀v∈ys,v.oneCell'=true)(h:∀zs,T W (f (own b n c e zs)) X):T W L (W6 ys b n X):=λw hs=>by
 obtain⟨k,hk,e1⟩:=j.at_;refine⟨λ_=>h xs w (by rw[e1,nd hk];exact hs),λa ha _=>?_⟩;obtain⟨hlx,h0|⟨r,sp,hb,u1,Bm,gX⟩⟩:=hs.nY hk
 ·rw[h0.1] at ha;cases ha
 ·rw[hb] at ha;cases ha
  obtain⟨hc,vQ⟩:=St.zE ys 0 0 gX (jM hk) (by simp;omega) h1;refine⟨hc,h ys _ ?_⟩;rw[jk,dZ] at vQ;have e2:over (xs++sp) 0 ys=ys++sp:=by
   unfold over;rw[nG,de,aC,hl,List.drop_left' rfl]
  rw[e2] at vQ;rw[e1,hb];exact St.BH ((aw.1 hk).1) (by rw[hl];exact hlx) u1 Bm vQ
def uQ(n:Nat):C->List C->C×List C
 |c,[]=>(c,[])
 |c,c'::hs=>if n<=hs.length then uQ n c' hs else(c,c'::hs)
def CR{n:Nat}(hn:hs.length<=n):uQ n c hs=(c,hs):=by
 cases hs with
 |nil=>rfl
 |cons c' hs=>unfold uQ;rw[ag (by simp at hn;omega)]
def QK{q:Core}{w:World}(h:St W w (gM p q::R)):∃b c,w.cell? ⟨p,0,none⟩=some (.l b q.vs.length c):=by
 obtain⟨⟨⟨b1,c1⟩,⟨b2,c2⟩,⟨b3,c3⟩,hp⟩,hs⟩:=h.ex;obtain⟨_,hs⟩:=hs.and;have:=(St.ss _ _ hs).cell (k:=0) (o:=0) rfl;exact⟨b1,c1,this.1⟩
def muB(p:Nat)(w:World):Nat:=match w.cell? ⟨p,0,none⟩ with|some (.slice _ m _)=>m|_=>0
def SD{q:Core}{w:World}(h:St W w (gM p q::R)):muB p w=q.vs.length:=by
 obtain⟨b,cc,e⟩:=QK h;unfold muB;rw[e]
def aa5[i:Lc (cP p) L (c,hs) f]{n:Nat}(hl:hs.length<1000000)(h:T W (f (uQ n c hs)) (K (.tuple ⟨[]⟩))):T W L (sK (ah p) (n:Int) K):=by
 refine t_c (p:=p) λla lk ti tn vs bx R hc pG=>?_;unfold sK;refine yk ?_;intro w hw;refine⟨λa w=>∃vs ft c',a=[]/\ft.length<1000000/\jV p la lk bx vs ft c'/\uQ n c' ft=uQ n c hs/\St W w (JZ p la lk ti tn vs bx c' R),
  λ_ w=>muB p w,⟨vs,hs,c,rfl,hl,hc,rfl,hw⟩,?_⟩
 rintro w2 ⟨F5,ft,c',-,LS,KQ,hb,hw⟩;have hmu:muB p w2=F5.length:=by
  have:=SD (q:=gp la lk ti tn F5 c') hw;rw[this];simp
 refine T.at ?_ hw;have hlen:=KQ.len;have Wn:max2 (n:Int) 0=n:=by unfold max2;split<;>omega
 rw[Wn];unfold JZ;refine qn (p:=p) λb1 c1 b2 c2 b3 c3 hp R2 g1 g2 S9=>?_;unfold iZ;have hrl:(gp la lk ti tn F5 c').vs.length=F5.length:=jb;apply ws;apply fV<;>intro g
 ·have OL:n<F5.length:=by omega
  match F5,ft,KQ,hlen,LS,OL with
  |v::yK,c2'::gX,KQ,hlen,LS,OL=>
  simp only[bt] at OL LS hlen;have hrl:(gp la lk ti tn (v::yK) c').vs.length=yK.length+1:=by show(v::yK).reverse.length=_;simp
  have e1:aa.wrap (((gp la lk ti tn (v::yK) c').vs.length:Int) -1)=(yK.length:Int):=by rw[aW (by omega)];omega
  apply ws;rw[e1];refine dM ⟨by omega,by omega⟩ λr hr=>?_;subst hr;rw[ao,lN];refine RG (v:=v) (by simp) ?_;refine S9 [] (gp la lk ti tn (v::yK) c') _ _ _ _ _ _ _ _ g1 g2 ?_;refine abx (c':=c2') (vs:=v::yK) KQ.1 ?_;unfold JZ;refine qn (p:=p) λb1 c1 b2 c2 b3 c3 hp R2 g1 g2 aen=>?_;unfold iZ;apply ws;refine qJ (b:=b1) λu1 _=>?_;have u1:(gp la lk ti tn (v::yK) c').vs.length<=c1:=u1;refine zD (by omega) ?_;refine Bu (b:=b1) (i:=yK.length) (show yK.length<=(gp la lk ti tn (v::yK) c').vs.length by omega) ?_;apply ws;have et:List.take (yK.length* 1) (v::yK).reverse=yK.reverse:=by rw[lN,xC,<-jb,Cc]
  rw[et];have:=aen [] (gp la lk ti tn yK c2') b1 c1 b2 c2 b3 c3 hp (λw3=>(∃vs ft c',([]:LV)=[]/\ft.length<1000000/\jV p la lk bx vs ft c'/\uQ n c' ft=uQ n c hs/\St W w3 (JZ p la lk ti tn vs bx c' R))/\muB p w3<muB p w2) g1 g2 ?_
  ·unfold iZ at this;rw[show(gp la lk ti tn yK c2').vs.length=yK.length from jb] at this;exact this
  ·intro w3 h3;refine⟨⟨yK,gX,c2',rfl,by omega,KQ.2,?_,h3⟩,?_⟩
   ·rw[<-hb]
    conv=>rhs;unfold uQ
    rw[ai (by omega)]
   ·have:=SD (q:=gp la lk ti tn yK c2') h3;rw[this,hmu];simp
 ·have hle:F5.length<=n:=by omega
  rw[CR (by omega)] at hb;rw[<-hb] at h;refine S9 [] (gp la lk ti tn F5 c') _ _ _ _ _ _ _ _ g1 g2 ?_;exact pG [] c' ft F5 bx _ KQ h
def Xy[i:Lc (cP p) L (c,hs) f](hl:hs.length<1000000)(h:T W (f (c,[])) (K (.tuple ⟨[]⟩))):T W L (mw (ah p) K):=by
 refine t_c (p:=p) λla lk ti tn vs bx R hc pG=>?_;have hlen:=hc.len;refine qn (p:=p) λb1 c1 b2 c2 b3 c3 hp R2 g1 g2 S9=>?_;unfold mw iZ;apply ws;refine qJ (b:=b1) λu1 Ho=>?_;refine RJ (b:=b1) (by rw[nT,Ho];simp) (λv hv=>?_) λzs=>?_
 ·simp only[Builtin.zeroCells,Array.toList_map,cw] at hv;obtain⟨j,_,rfl⟩:=hv;have:(⟨[Value.nilFunc]⟩:Array Value)[j%(⟨[Value.nilFunc]⟩:Array Value).size]! =.nilFunc:=by
   have:j%(⟨[Value.nilFunc]⟩:Array Value).size=0:=Nat.mod_one j;rw[this];rfl
  rw[this];rfl
 apply ws;refine zD (i:=0) (by omega) ?_;refine Bu (b:=b1) (i:=0) (by omega) ?_;apply ws;rw[Nat.zero_mul,nG];refine S9 [] (gp la lk ti tn [] c) b1 c1 b2 c2 b3 c3 hp _ g1 g2 ?_;exact pG [] c [] [] bx _ trivial h
end
end Go.Up
namespace Go.Md
structure bN(m:aA):Prop where
 zero:∀a∈m.cy,a.dp=0/\a.dq=0/\a.cp=0/\a.cq=0/\0<=a.ak/\a.ak<8
 ids:(m.cy.map (·.id)).Nodup
 ou:m.cy.length<=32
 names:(m.ax.map (·.move.id)).Nodup
 uJ:∀k∈m.ax,0<=k.fate/\k.fate<=4/\(has k.move.ak 2↔1<=k.fate)
 u6:∀k∈m.ax,k.move.bp≠k.move.aP/\k.move.bp∈m.cy.map (·.id)/\k.move.aP∈m.cy.map (·.id)
 some_:m.ax.length<=96
 xq:∀a∈m.cy,S (tN a.id) m.ax+S (tB a.id) m.ax<bB
 tX:∀a∈m.cy,S (tP a.id) m.ax+S (tC a.id) m.ax<bB
 vn:∀a∈m.cy,S (uk a.id) m.ax<=1
structure oT(b:aY)(m:aA):Prop where
 aB:b.aB=m.cy.map (full m.ax)
 ax:b.ax=m.ax
 clock:b.clock=m.clock
 ay:b.ay=m.ay
def bN.full{m:aA}(h:bN m){a:bC}(ha:a∈m.cy):m.full a=Md.full m.ax a:=by
 obtain⟨h1,h2,h3,h4,_⟩:=h.zero a ha;have d:=h.xq a ha;have c:=h.tX a ha;exact M0 a m.ax (by omega) (by omega) (by omega) (by omega)
def wo{l:List bC}{id:Nat}{a:bC}(h:l.find? (λa=>a.id=id)=some a):a∈l/\a.id=id:=
 ⟨mM h,by simpa using List.find?_some h⟩
def oT.find{b:aY}{m:aA}(h:oT b m)(id:Nat):b.find id=(m.find id).map (Md.full m.ax):=by
 unfold aY.find aA.find;rw[h.aB,List.find?_map]
 rfl
def Hx(l:List bW)(k:bW)(a:bC):full (l++[k]) a=full [k] (full l a):=(CI a l [k]).symm
def A3(k:bW)(a:bC):full [k] a={a with dp:=a.dp+tN a.id k,dq:=a.dq+tB a.id k,cp:=a.cp+tP a.id k,cq:=a.cq+tC a.id k,ak:=if kh a.id k then a.ak%8+8 else a.ak}:=by
 unfold full;simp only[pq,xO,dZ]
 congr 1
 unfold uk;by_cases h:kh a.id k
 ·rw[ai h,ai h,ag (by omega)]
 ·rw[ag h,ag h,ai rfl]
def sC(t b:cE):sE t b≠0:=by unfold sE;split<;>decide
def vd{t:cE}{named:Option bW}{d c:Option bC}{many:Nat}(h:(jn t named d c many).1=0):
 ∃d' c',d=some d'/\c=some c'/\named=none/\mT t=0/\ ¬jA t.ak/\d'.aZ=c'.aZ/\d'.ak<8/\c'.ak<8/\many<96/\
  d'.dp+d'.dq+(jn t named d c many).2<bB/\c'.cp+c'.cq+(jn t named d c many).2<bB/\
  ¬(has d'.ak 2/\iu d' true<(jn t named d c many).2)/\ ¬(has c'.ak 4/\iu c' false<(jn t named d c many).2):=by
 unfold jn at h⊢;by_cases h1:mT t≠0
 ·rw[ai h1] at h;exact aT h h1
 rw[ag h1] at h⊢;by_cases h2:jA t.ak
 ·rw[ai h2] at h;exact aT h (by decide)
 rw[ag h2] at h⊢;cases named with
 |some k=>exact aT h (sC t k.asked)
 |none=>
  cases d with
  |none=>exact aT h (show ¬(19:Int)=0 by decide)
  |some d=>
   cases c with
   |none=>exact aT h (show ¬(20:Int)=0 by decide)
   |some c=>
    dsimp only at h⊢;by_cases h3:d.aZ≠c.aZ
    ·rw[ai h3] at h;exact aT h (by decide)
    rw[ag h3] at h⊢;by_cases h4:d.aZ≠t.aZ
    ·rw[ai h4] at h;exact aT h (by decide)
    rw[ag h4] at h⊢;by_cases h5:8<=d.ak
    ·rw[ai h5] at h;exact aT h (by decide)
    rw[ag h5] at h⊢;by_cases h6:8<=c.ak
    ·rw[ai h6] at h;exact aT h (by decide)
    rw[ag h6] at h⊢;by_cases h7:96<=many
    ·rw[ai h7] at h;exact aT h (by decide)
    rw[ag h7] at h⊢;by_cases h8:(cZ t d c).2≠0
    ·rw[ai h8] at h;exact aT h h8
    rw[ag h8] at h⊢;by_cases h9:(more d true (cZ t d c).1 (decide (has t.ak 2))).2≠0
    ·rw[ai h9] at h;exact aT h h9
    rw[ag h9] at h⊢;by_cases h10:(more c false (cZ t d c).1 (decide (has t.ak 2))).2≠0
    ·rw[ai h10] at h;exact aT h h10
    rw[ag h10];dsimp only;refine⟨d,c,rfl,rfl,rfl,bh.1 h1,h2,bh.1 h3,by omega,by omega,by omega,?_,?_,?_,?_⟩
    ·by_cases hh:bB<=d.dp+d.dq+(cZ t d c).1
     ·exfalso;apply h9;unfold more;rw[ai rfl,ai hh];exact(show(32:Int)≠0 by decide)
     ·omega
    ·by_cases hh:bB<=c.cp+c.cq+(cZ t d c).1
     ·exfalso;apply h10;unfold more;rw[ag cG,ai hh];exact(show(32:Int)≠0 by decide)
     ·omega
    ·intro hh;apply h9;unfold more;rw[ai rfl];by_cases h0:bB<=d.dp+d.dq+(cZ t d c).1
     ·rw[ai h0];exact(show(32:Int)≠0 by decide)
     ·rw[ag h0,ai hh];exact(show(33:Int)≠0 by decide)
    ·intro hh;apply h10;unfold more;rw[ag cG];by_cases h0:bB<=c.cp+c.cq+(cZ t d c).1
     ·rw[ai h0];exact(show(32:Int)≠0 by decide)
     ·rw[ag h0,ai hh];exact(show(34:Int)≠0 by decide)
def oM{l:List bC}(hn:(l.map (·.id)).Nodup){a:bC}(ha:a∈l):l.find? (λx=>x.id=a.id)=some a:=by
 induction l with
 |nil=>simp at ha
 |cons x l ih=>
  simp only[cN,List.nodup_cons] at hn;rcases jB.1 ha with rfl|ha
  ·simp
  ·rw[List.find?_cons];by_cases hx:x.id=a.id
   ·exact aT (cw.2 ⟨a,ha,hx.symm⟩) hn.1
   ·simp only[hx,decide_false];exact ih hn.2 ha
def MY{a:bC}{k:bW}(h1:k.move.bp≠a.id)(h2:k.move.aP≠a.id):full [k] a=a:=by
 rw[A3];unfold tN tB tP tC kh;simp[h1,h2]
def Dl(a:bC)(b:Bool)(n:Nat)(p:Bool):(more a b n p).1.id=a.id/\(more a b n p).1.ay=a.ay:=by
 unfold more;split<;>split<;>(try exact⟨rfl,rfl⟩)<;>split<;>(try exact⟨rfl,rfl⟩)<;>split<;>exact⟨rfl,rfl⟩
def Ba(a:bC)(yes:Prop)[Decidable yes]:(close a yes).id=a.id/\(close a yes).ay=a.ay:=by unfold close;split<;>exact⟨rfl,rfl⟩
def MG{d c x:bC}{t:cE}{n:Nat}{st ck:Int}(hdc:t.bp≠t.aP)(hd:d.id=t.bp)(hc:c.id=t.aP)(rj: ¬jA t.ak)(UC:d.dp+d.dq+n<bB)(hsc:c.cp+c.cq+n<bB)(hxd:x.id=t.bp->x=d)(hxc:x.id=t.aP->x=c)
 (KD: ¬(has d.ak 2/\iu d true<n))(u1: ¬(has c.ak 4/\iu c false<n))(q1:has t.ak 64->has t.ak 2)(q2:has t.ak 128->has t.ak 2):
 (λy:bC=>if y.id=(close (more c false n (decide (has t.ak 2))).1 (has t.ak 128)).id then{close (more c false n (decide (has t.ak 2))).1 (has t.ak 128) with ay:=y.ay} else y)
  ((λy:bC=>if y.id=(close (more d true n (decide (has t.ak 2))).1 (has t.ak 64)).id then{close (more d true n (decide (has t.ak 2))).1 (has t.ak 64) with ay:=y.ay} else y) x)
 =full [⟨t,{t with aU:=n,ay:=st,jj:=ck},waits t⟩] x:=by
 have i1:(close (more d true n (decide (has t.ak 2))).1 (has t.ak 64)).id=t.bp:=by rw[(Ba _ _).1,(Dl _ _ _ _).1,hd]
 have i2:(close (more c false n (decide (has t.ak 2))).1 (has t.ak 128)).id=t.aP:=by rw[(Ba _ _).1,(Dl _ _ _ _).1,hc]
 have s1:(close (more d true n (decide (has t.ak 2))).1 (has t.ak 64)).ay=d.ay:=by rw[(Ba _ _).2,(Dl _ _ _ _).2]
 have s2:(close (more c false n (decide (has t.ak 2))).1 (has t.ak 128)).ay=c.ay:=by rw[(Ba _ _).2,(Dl _ _ _ _).2]
 have e4: ¬has t.ak 4:=λh=>rj (.inl h);have e8: ¬has t.ak 8:=λh=>rj (.inr h);dsimp only;rw[i1,i2];by_cases h1:x.id=t.bp
 ·have hx:=hxd h1;subst hx;rw[ai h1];rw[ag (show ¬t.bp=t.aP from hdc),A3];unfold tN tB tP tC kh iR waits close more;have kd: ¬t.aP=x.id:=λh=>hdc (by rw[h,h1]);simp only[if_true,ag (show ¬bB<=x.dp+x.dq+n by omega),ag KD];by_cases hw:has t.ak 2<;>by_cases pG:has t.ak 64<;>(try exact aT (q1 pG) hw)<;>simp[hw,pG,e8,h1.symm,kd]
 ·rw[ag h1];by_cases h2:x.id=t.aP
  ·have hx:=hxc h2;subst hx;rw[ai h2,A3];unfold tN tB tP tC kh iR waits close more;have kd: ¬t.bp=x.id:=λh=>h1 h.symm;simp only[cB,if_false,ag (show ¬bB<=x.cp+x.cq+n by omega),ag u1];by_cases hw:has t.ak 2<;>by_cases pG:has t.ak 128<;>(try exact aT (q2 pG) hw)<;>simp[hw,pG,e8,h2.symm,kd]
  ·rw[ag h2,MY (λh=>h1 h.symm) (λh=>h2 h.symm)]
def HL{t:cE}(h:mT t=0)(he: ¬jA t.ak):t.bp≠t.aP/\0<=t.ak/\t.ak<=255/\(has t.ak 64->has t.ak 2)/\(has t.ak 128->has t.ak 2):=by
 unfold mT at h;by_cases h1:t.ak<0\/255<t.ak
 ·rw[ai h1] at h;exact aT h (by decide)
 rw[ag h1] at h;have ht:iY t.ak:=by
  by_cases h2:t.id=0
  ·rw[ai h2] at h;exact aT h (by decide)
  rw[ag h2] at h;by_cases h3:t.id=bB-1
  ·rw[ai h3] at h;exact aT h (by decide)
  rw[ag h3] at h;by_cases h4: ¬iY t.ak
  ·rw[ai h4] at h;exact aT h (by decide)
  exact bh.1 h4
 have WC:∀b:Int,(b=64\/b=128)->has t.ak b->has t.ak 2:=λb hb hh=>by
  rcases ht.2.2 with h0|h0
  ·unfold has at hh;rcases hb with rfl|rfl<;>omega
  ·exact h0
 refine⟨λhdc=>?_,by omega,by omega,WC 64 (.inl rfl),WC 128 (.inr rfl)⟩;by_cases h2:t.id=0
 ·rw[ai h2] at h;exact aT h (by decide)
 rw[ag h2] at h;by_cases h3:t.id=bB-1
 ·rw[ai h3] at h;exact aT h (by decide)
 rw[ag h3] at h;by_cases h4: ¬iY t.ak
 ·rw[ai h4] at h;exact aT h (by decide)
 rw[ag h4] at h;by_cases h5:t.ay≠0\/t.jj≠0
 ·rw[ai h5] at h;exact aT h (by decide)
 rw[ag h5] at h;by_cases h6:t.cu<0\/1073741824<t.cu\/0<t.cu/\ ¬has t.ak 2
 ·rw[ai h6] at h;exact aT h (by decide)
 rw[ag h6,ag he] at h;by_cases h7:t.bp=0
 ·rw[ai h7] at h;exact aT h (by decide)
 rw[ag h7] at h;by_cases h8:t.aP=0
 ·rw[ai h8] at h;exact aT h (by decide)
 rw[ag h8,ai hdc] at h;exact aT h (by decide)
def E8{l:List bW}{a:bC}(h0:0<=a.ak)(h:(full l a).ak<8):S (uk a.id) l=0:=by
 by_cases hs:S (uk a.id) l=0
 ·exact hs
 ·exfalso;have e:(full l a).ak=a.ak%8+8:=ag hs;rw[e] at h;omega
def oT.Iy{b:aY}{m:aA}(h:oT b m)(id:Nat):b.named id=m.named id:=by unfold aY.named aA.named;rw[h.ax]
def bN.Ti{m:aA}(h:bN m)(id:Nat):(m.find id).map m.full=(m.find id).map (Md.full m.ax):=by
 cases hf:m.find id with
 |none=>rfl
 |some a=>rw[eW,eW,h.full (wo hf).1]
def bN.one{m:aA}(h:bN m){id:Nat}{d:bC}(hf:(m.find id).map (Md.full m.ax)=some d){a:bC}(ha:a∈m.cy)(LX:a.id=id):Md.full m.ax a=d:=by
 have:=oM h.ids ha;rw[LX] at this;unfold aA.find at hf;rw[this] at hf;simpa using hf
def oT.move{b:aY}{m:aA}{t:cE}(hs:oT b m)(hg:bN m):(b.move t).1=(m.move t).1/\oT (b.move t).2 (m.move t).2/\bN (m.move t).2:=by
 have e:jn t (b.named t.id) (b.find t.bp) (b.find t.aP) b.ax.length=jn t (m.named t.id) ((m.find t.bp).map m.full) ((m.find t.aP).map m.full) m.ax.length:=by
  rw[hs.Iy,hs.find,hs.find,hg.Ti,hg.Ti,hs.ax]
 unfold aY.move aA.move;dsimp only;rw[e];by_cases hr:(jn t (m.named t.id) ((m.find t.bp).map m.full) ((m.find t.aP).map m.full) m.ax.length).1≠0
 ·rw[ai hr,ai hr];exact⟨rfl,hs,hg⟩
 rw[ag hr,ag hr];have Wf:=bh.1 hr;obtain⟨d,c,hd,hc,hn,tG,rj,hlg,Yn,Yo,wi,UC,hsc,KD,u1⟩:=vd Wf;generalize (jn t (m.named t.id) ((m.find t.bp).map m.full) ((m.find t.aP).map m.full) m.ax.length).2=n at *;obtain⟨hdc,ahs,ahr,hq1,Wg⟩:=HL tG rj;rw[hg.Ti] at hd hc;have hbd:b.find t.bp=some d:=by rw[hs.find];exact hd
 have hbc:b.find t.aP=some c:=by rw[hs.find];exact hc
 obtain⟨d0,hd0,rfl⟩:=Option.map_eq_some_iff.1 hd;obtain⟨c0,hc0,rfl⟩:=Option.map_eq_some_iff.1 hc;obtain⟨Dv,E5⟩:=wo hd0;obtain⟨Q',Dw⟩:=wo hc0;refine⟨rfl,⟨?_,?_,?_,?_⟩,?_⟩
 ·unfold aY.Cv;rw[hbd,hbc];show((b.aB.map _).map _)=m.cy.map (Md.full (m.ax++[_]));rw[hs.aB,oU,oU];apply dS;intro a ha;rw[Hx];exact MG (d:=Md.full m.ax d0) (c:=Md.full m.ax c0) (x:=Md.full m.ax a) hdc E5 Dw rj UC hsc (λhx=>hg.one hd ha hx) (λhx=>hg.one hc ha hx) KD u1 hq1 Wg
 ·unfold aY.Cv;rw[hbd,hbc];show b.ax++[(⟨t,{{t with aU:=n} with ay:=b.ay+1,jj:=b.clock},waits t⟩:bW)]=m.ax++[_];rw[hs.ax,hs.ay,hs.clock]
 ·unfold aY.Cv;rw[hbd,hbc];exact hs.clock
 ·unfold aY.Cv;rw[hbd,hbc];show b.ay+1=m.ay+1;rw[hs.ay]
 ·have hdz:=hg.zero d0 Dv;have hcz:=hg.zero c0 Q';have hle:∀id(k:bW),k.move.bp=t.bp->k.move.aU=n->k.move.ak=t.ak->k.fate=waits t->tN id k+tB id k<=if t.bp=id then n else 0:=λid k e1 e2 e3 e4=>by
   have hx:k.fate=1-> ¬iR k:=λh1 h2=>by
    rw[e4] at h1;unfold waits at h1;by_cases h3:has t.ak 2
    ·exact h2.1 (by rw[e3];exact h3)
    ·rw[ag h3] at h1;exact aT h1 (by decide)
   unfold tN tB;rw[e1,e2];by_cases h1:t.bp=id
   ·by_cases h2:k.fate=1
    ·simp[h1,h2,hx h2]
    ·simp[h1,h2];split<;>omega
   ·simp[h1]
  have ad5:∀id(k:bW),k.move.aP=t.aP->k.move.aU=n->k.move.ak=t.ak->k.fate=waits t->tP id k+tC id k<=if t.aP=id then n else 0:=λid k e1 e2 e3 e4=>by
   have hx:k.fate=1-> ¬iR k:=λh1 h2=>by
    rw[e4] at h1;unfold waits at h1;by_cases h3:has t.ak 2
    ·exact h2.1 (by rw[e3];exact h3)
    ·rw[ag h3] at h1;exact aT h1 (by decide)
   unfold tP tC;rw[e1,e2];by_cases h1:t.aP=id
   ·by_cases h2:k.fate=1
    ·simp[h1,h2,hx h2]
    ·simp[h1,h2];split<;>omega
   ·simp[h1]
  refine⟨hg.zero,hg.ids,hg.ou,?_,λk hk=>?_,λk hk=>?_,?_,λa ha=>?_,λa ha=>?_,λa ha=>?_⟩
  ·show((m.ax++[_]).map _).Nodup;rw[cR,List.nodup_append];refine⟨hg.names,by simp,λx hx y hy=>?_⟩;simp only[cN,ud,Cd] at hy;obtain⟨k,hk,rfl⟩:=cw.1 hx;intro hxy;unfold aA.named at hn;have:=mW.1 hn k hk;simp[hxy,hy] at this
  ·rcases dF.1 hk with hk|hk
   ·exact hg.uJ k hk
   ·simp only[Cd] at hk;subst hk;unfold waits;by_cases h2:has t.ak 2
    ·simp only[ai h2];exact⟨by decide,by decide,by simp[h2]⟩
    ·simp only[ag h2];exact⟨by decide,by decide,by simp[h2]⟩
  ·rcases dF.1 hk with hk|hk
   ·exact hg.u6 k hk
   ·simp only[Cd] at hk;subst hk;exact⟨hdc,cw.2 ⟨d0,Dv,E5⟩,cw.2 ⟨c0,Q',Dw⟩⟩
  ·show(m.ax++[_]).length<=96;rw[au,pD];omega
  ·show S (tN a.id) (m.ax++[_])+S (tB a.id) (m.ax++[_])<bB;rw[tL,tL];generalize hK:bW.mk t _ (waits t)=K;have h1:=hle a.id K (by rw[<-hK]) (by rw[<-hK]) (by rw[<-hK]) (by rw[<-hK]);have h2:=hg.xq a ha;by_cases had:t.bp=a.id
   ·rw[ai had] at h1;have h3:=hg.one hd ha had.symm;rw[<-h3] at UC;have h4:=hg.zero a ha;have e1:(Md.full m.ax a).dp=a.dp+S (tN a.id) m.ax:=rfl;have e2:(Md.full m.ax a).dq=a.dq+S (tB a.id) m.ax:=rfl;omega
   ·rw[ag had] at h1;omega
  ·show S (tP a.id) (m.ax++[_])+S (tC a.id) (m.ax++[_])<bB;rw[tL,tL];generalize hK:bW.mk t _ (waits t)=K;have h1:=ad5 a.id K (by rw[<-hK]) (by rw[<-hK]) (by rw[<-hK]) (by rw[<-hK]);have h2:=hg.tX a ha;by_cases had:t.aP=a.id
   ·rw[ai had] at h1;have h3:=hg.one hc ha had.symm;rw[<-h3] at hsc;have e1:(Md.full m.ax a).cp=a.cp+S (tP a.id) m.ax:=rfl;have e2:(Md.full m.ax a).cq=a.cq+S (tC a.id) m.ax:=rfl;omega
   ·rw[ag had] at h1;omega
  ·show S (uk a.id) (m.ax++[_])<=1;rw[tL];have h2:=hg.vn a ha;generalize hK:bW.mk t _ (waits t)=K;by_cases pG:kh a.id K
   ·have h3:uk a.id K=1:=ai pG;have h0:S (uk a.id) m.ax=0:=by
     rcases pG.1 with⟨_,hh⟩|⟨_,hh⟩
     ·rw[<-hK] at hh;have:=hg.one hd ha (show a.id=t.bp from hh.symm);rw[<-this] at Yn;exact E8 (hg.zero a ha).2.2.2.2.1 Yn
     ·rw[<-hK] at hh;have:=hg.one hc ha (show a.id=t.aP from hh.symm);rw[<-this] at Yo;exact E8 (hg.zero a ha).2.2.2.2.1 Yo
    omega
   ·have h3:uk a.id K=0:=ag pG;omega
def modify_eq{α:Type}(f:α->α):∀(l:List α)(i:Nat)(h:i<l.length),l.modify i f=l.set i (f l[i])
 |[],i,h=>by simp at h
 |x::l,0,h=>by simp[List.modify]
 |x::l,i+1,h=>by
  have:=modify_eq f l i (by simpa using h);simp[List.modify_succ_cons,this]
def ended{l:List bW}{i:Nat}(hi:i<l.length){f:Int}(h1:l[i].fate=1)(hw:has l[i].move.ak 2)(hf:f=2\/f=3\/f=4)(id:Nat):
 S (tN id) (l.set i {l[i] with fate:=f})+(if l[i].move.bp=id then l[i].move.aU else 0)=S (tN id) l/\
 S (tP id) (l.set i {l[i] with fate:=f})+(if l[i].move.aP=id then l[i].move.aU else 0)=S (tP id) l/\
 S (tB id) (l.set i {l[i] with fate:=f})=S (tB id) l/\S (tC id) (l.set i {l[i] with fate:=f})=S (tC id) l/\
 S (uk id) (l.set i {l[i] with fate:=f})+(if f≠2/\(has l[i].move.ak 64/\l[i].move.bp=id\/has l[i].move.ak 128/\l[i].move.aP=id) then 1 else 0)=S (uk id) l:=by
 have a1:=HS (tN id) l i {l[i] with fate:=f} hi;have a2:=HS (tP id) l i {l[i] with fate:=f} hi;have a3:=HS (tB id) l i {l[i] with fate:=f} hi;have a4:=HS (tC id) l i {l[i] with fate:=f} hi;have a5:=HS (uk id) l i {l[i] with fate:=f} hi;have b1:tN id {l[i] with fate:=f}=0:=by unfold tN;rw[ag (by rintro⟨hh,_⟩;dsimp only at hh;omega)]
 have b2:tP id {l[i] with fate:=f}=0:=by unfold tP;rw[ag (by rintro⟨hh,_⟩;dsimp only at hh;omega)]
 have b3:tB id {l[i] with fate:=f}=tB id l[i]:=rfl;have b4:tC id {l[i] with fate:=f}=tC id l[i]:=rfl;have c1:tN id l[i]=if l[i].move.bp=id then l[i].move.aU else 0:=by
  unfold tN;by_cases h:l[i].move.bp=id
  ·rw[ai ⟨h1,h⟩,ai h]
  ·rw[ag (λhh=>h hh.2),ag h]
 have c2:tP id l[i]=if l[i].move.aP=id then l[i].move.aU else 0:=by
  unfold tP;by_cases h:l[i].move.aP=id
  ·rw[ai ⟨h1,h⟩,ai h]
  ·rw[ag (λhh=>h hh.2),ag h]
 rw[b1,c1] at a1;rw[b2,c2] at a2;rw[b3] at a3;rw[b4] at a4;refine⟨by omega,by omega,by omega,by omega,?_⟩;by_cases pG:has l[i].move.ak 64/\l[i].move.bp=id\/has l[i].move.ak 128/\l[i].move.aP=id
 ·have d1:uk id l[i]=1:=ai ⟨pG,.inl h1⟩;by_cases Dt:f=2
  ·have d2:uk id {l[i] with fate:=f}=1:=ai ⟨pG,.inr Dt⟩;rw[ag (λhh=>hh.1 Dt)];omega
  ·have d2:uk id {l[i] with fate:=f}=0:=ag (by rintro⟨_,hh⟩;dsimp only at hh;omega);rw[ai ⟨Dt,pG⟩];omega
 ·have d1:uk id l[i]=0:=ag (λhh=>pG hh.1);have d2:uk id {l[i] with fate:=f}=0:=ag (λhh=>pG hh.1);rw[ag (λhh=>pG hh.2)];omega
def Ij(d:bC)(p:cE)(n:Nat)(f:Int):(zJ d p n f).id=d.id/\(zJ d p n f).ay=d.ay:=by unfold zJ open_;split<;>(try exact⟨rfl,rfl⟩);split<;>exact⟨rfl,rfl⟩
def Ik(d:bC)(p:cE)(n:Nat)(f:Int):(AJ d p n f).id=d.id/\(AJ d p n f).ay=d.ay:=by unfold AJ open_;split<;>(try exact⟨rfl,rfl⟩);split<;>exact⟨rfl,rfl⟩
def JW{l:List bW}{i:Nat}(hi:i<l.length){f:Int}{n:Nat}{a:bC}(h1:l[i].fate=1)(hw:has l[i].move.ak 2)(hf:f=2\/f=3\/f=4)(kd:l[i].move.bp≠l[i].move.aP)(ha0:0<=a.ak)(ha8:a.ak<8)(pG:S (uk a.id) l<=1)
 {d c:bC}(hd:d.id=l[i].move.bp)(hc:c.id=l[i].move.aP)(hxd:a.id=l[i].move.bp->full l a=d)(hxc:a.id=l[i].move.aP->full l a=c):
 (λy:bC=>if y.id=(AJ c l[i].move n f).id then{AJ c l[i].move n f with ay:=y.ay} else y) ((λy:bC=>if y.id=(zJ d l[i].move n f).id then{zJ d l[i].move n f with ay:=y.ay} else y) (full l a))
 ={full (l.set i {l[i] with fate:=f}) a with dq:=(full l a).dq+(if f=2/\l[i].move.bp=a.id then n else 0),cq:=(full l a).cq+(if f=2/\l[i].move.aP=a.id then n else 0)}:=by
 have LX:(full l a).id=a.id:=rfl;obtain⟨e1,e2,e3,e4,e5⟩:=ended hi h1 hw hf a.id;dsimp only;rw[(Ik c _ n f).1,(Ij d _ n f).1,hd,hc];generalize hk:l[i]=k at *;generalize hl:l.set i {k with fate:=f}=l' at *;by_cases Qr:a.id=k.move.bp
 ·have hx:=hxd Qr;rw[ai (show(full l a).id=k.move.bp by rw[LX];exact Qr),ag (show ¬k.move.bp=k.move.aP from kd),<-hx];have Z8: ¬k.move.aP=a.id:=λhh=>kd (by rw[hh,Qr]);rw[ai Qr.symm] at e1;rw[ag Z8] at e2;unfold zJ open_ full;dsimp only;by_cases h2:f=2
  ·subst h2;simp only[if_true,true_and,Qr.symm,Z8,if_false,dZ];rw[ag (by rintro⟨hh,_⟩;exact hh rfl)] at e5;have:S (uk a.id) l'=S (uk a.id) l:=by omega
   simp only[this,e3,e4]
   congr 1<;>omega
  ·have hb:∀p:Prop,¬(f=2/\p):=λp hh=>h2 hh.1;rw[ag h2,ag (hb _),ag (hb _)];by_cases WC:has k.move.ak 64
   ·rw[ai ⟨h2,.inl ⟨WC,Qr.symm⟩⟩] at e5;have z1:S (uk a.id) l'=0:=by omega
    have z2: ¬S (uk a.id) l=0:=by omega
    simp only[z1,z2,WC,if_true,if_false,e3,e4]
    congr 1<;>omega
   ·rw[ag (by rintro⟨_,hh|hh⟩;exact WC hh.1;exact Z8 hh.2)] at e5;have:S (uk a.id) l'=S (uk a.id) l:=by omega
    simp only[this,WC,if_false,e3,e4]
    congr 1<;>omega
 ·rw[ag (show ¬(full l a).id=k.move.bp by rw[LX];exact Qr)];have Qm: ¬k.move.bp=a.id:=λhh=>Qr hh.symm;by_cases OP:a.id=k.move.aP
  ·have hx:=hxc OP;rw[ai (show(full l a).id=k.move.aP by rw[LX];exact OP),<-hx];rw[ag Qm] at e1;rw[ai OP.symm] at e2;unfold AJ open_ full;dsimp only;by_cases h2:f=2
   ·subst h2;simp only[if_true,true_and,OP.symm,Qm,if_false,dZ];rw[ag (by rintro⟨hh,_⟩;exact hh rfl)] at e5;have:S (uk a.id) l'=S (uk a.id) l:=by omega
    simp only[this,e3,e4]
    congr 1<;>omega
   ·have hb:∀p:Prop,¬(f=2/\p):=λp hh=>h2 hh.1;rw[ag h2,ag (hb _),ag (hb _)];by_cases BX:has k.move.ak 128
    ·rw[ai ⟨h2,.inr ⟨BX,OP.symm⟩⟩] at e5;have z1:S (uk a.id) l'=0:=by omega
     have z2: ¬S (uk a.id) l=0:=by omega
     simp only[z1,z2,BX,if_true,if_false,e3,e4]
     congr 1<;>omega
    ·rw[ag (by rintro⟨_,hh|hh⟩;exact Qm hh.2;exact BX hh.1)] at e5;have:S (uk a.id) l'=S (uk a.id) l:=by omega
     simp only[this,BX,if_false,e3,e4]
     congr 1<;>omega
  ·rw[ag (show ¬(full l a).id=k.move.aP by rw[LX];exact OP)];have Z9: ¬k.move.aP=a.id:=λhh=>OP hh.symm;rw[ag Qm] at e1;rw[ag Z9] at e2;rw[ag (by rintro⟨_,hh|hh⟩;exact Qm hh.2;exact Z9 hh.2)] at e5;have:S (uk a.id) l'=S (uk a.id) l:=by omega
   unfold full;simp only[this,Qm,Z9,and_false,if_false,dZ,e3,e4]
   congr 1<;>omega
def CL{l:List bW}{p:bW->Bool}:l.find? p=(l.findIdx? p).bind λi=>l[i]?:=by
 induction l with
 |nil=>rfl
 |cons x l ih=>
  rw[List.find?_cons,List.findIdx?_cons];cases hp:p x with
  |true=>rfl
  |false=>
   simp only[ih];cases l.findIdx? p with
   |none=>rfl
   |some i=>simp
def oT.make{b:aY}{m:aA}{a:bC}(hs:oT b m)(hg:bN m):(b.make a).1=(m.make a).1/\oT (b.make a).2 (m.make a).2/\bN (m.make a).2:=by
 unfold aY.make aA.make;by_cases h1:tI a≠0
 ·rw[ai h1,ai h1];exact⟨rfl,hs,hg⟩
 rw[ag h1,ag h1,hs.find];cases hf:m.find a.id with
 |some x=>
  refine⟨?_,hs,hg⟩;show tJ a (Md.full m.ax x)=tJ a x;have hz:=hg.zero x (wo hf).1;unfold tJ Md.full;dsimp only;have:(if S (uk x.id) m.ax=0 then x.ak else x.ak%8+8)/2%4=x.ak/2%4:=by split<;>omega
  rw[this]
 |none=>
  have hlen:b.aB.length=m.cy.length:=by rw[hs.aB,bP]
  dsimp only[Option.map_none];rw[hlen];by_cases h2:32<=m.cy.length
  ·rw[ai h2,ai h2];exact⟨rfl,hs,hg⟩
  rw[ag h2,ag h2];have tG:=bh.1 h1;have oC:∀x∈m.cy,x.id≠a.id:=λx hx=>by
   have:=mW.1 hf x hx;simpa using this
  have hc:0<=a.ak/\a.ak<=7/\a.dp=0/\a.dq=0/\a.cp=0/\a.cq=0:=by
   unfold tI at tG;by_cases c1:a.ak<0\/7<a.ak
   ·rw[ai c1] at tG;exact aT tG (by decide)
   rw[ag c1] at tG;by_cases c2:a.id=0
   ·rw[ai c2] at tG;exact aT tG (by decide)
   rw[ag c2] at tG;by_cases c3:a.id=bB-1
   ·rw[ai c3] at tG;exact aT tG (by decide)
   rw[ag c3] at tG;by_cases c4:has a.ak 2/\has a.ak 4
   ·rw[ai c4] at tG;exact aT tG (by decide)
   rw[ag c4] at tG;by_cases c5:a.dp≠0\/a.dq≠0\/a.cp≠0\/a.cq≠0\/a.ay≠0
   ·rw[ai c5] at tG;exact aT tG (by decide)
   omega
  have z:∀k∈m.ax,k.move.bp≠a.id/\k.move.aP≠a.id:=λk hk=>by
   obtain⟨_,s1,s2⟩:=hg.u6 k hk;obtain⟨x,hx,hxe⟩:=cw.1 s1;obtain⟨y,hy,hye⟩:=cw.1 s2;exact⟨λh=>oC x hx (by rw[hxe,h]),λh=>oC y hy (by rw[hye,h])⟩
  have S0:∀f:bW->Nat,(∀k∈m.ax,f k=0)->S f m.ax=0:=λf hf=>by
   have:∀l:List bW,(∀k∈l,f k=0)->S f l=0:=λl=>by
    induction l with
    |nil=>intro _;rfl
    |cons x l ih=>intro h;rw[pq,h x (by simp),ih λk hk=>h k (by simp[hk])]
   exact this _ hf
  have z1:S (tN a.id) m.ax=0:=S0 _ λk hk=>ag (λhh=>(z k hk).1 hh.2);have z2:S (tP a.id) m.ax=0:=S0 _ λk hk=>ag (λhh=>(z k hk).2 hh.2);have z3:S (tB a.id) m.ax=0:=S0 _ λk hk=>ag (λhh=>(z k hk).1 hh.2);have z4:S (tC a.id) m.ax=0:=S0 _ λk hk=>ag (λhh=>(z k hk).2 hh.2);have z5:S (uk a.id) m.ax=0:=S0 _ λk hk=>ag (λhh=>by
   rcases hh.1 with h|h
   ·exact(z k hk).1 h.2
   ·exact(z k hk).2 h.2)
  refine⟨rfl,⟨?_,hs.ax,hs.clock,by show b.ay+1=m.ay+1;rw[hs.ay]⟩,?_⟩
  ·show b.aB++[_]=(m.cy++[_]).map (Md.full m.ax);rw[cR,hs.aB,hs.ay]
   congr 1
   simp only[cN,ud]
   congr 1
   unfold Md.full;dsimp only;rw[z1,z2,z3,z4,z5,ai rfl];simp
  ·have key:∀x∈m.cy++[({a with ay:=m.ay+1,ak:=a.ak/2* 2}:bC)],x∈m.cy\/x={a with ay:=m.ay+1,ak:=a.ak/2* 2}:=λx hx=>by
    rcases dF.1 hx with h|h
    ·exact .inl h
    ·exact .inr (by simpa using h)
   refine⟨λx hx=>?_,?_,?_,hg.names,hg.uJ,λk hk=>?_,hg.some_,λx hx=>?_,λx hx=>?_,λx hx=>?_⟩
   ·rcases key x hx with h|rfl
    ·exact hg.zero x h
    ·exact⟨hc.2.2.1,hc.2.2.2.1,hc.2.2.2.2.1,hc.2.2.2.2.2,by show 0<=a.ak/2* 2;omega,by show a.ak/2* 2<8;omega⟩
   ·show((m.cy++[_]).map _).Nodup;rw[cR,List.nodup_append];refine⟨hg.ids,by simp,λx hx y hy=>?_⟩;simp only[cN,ud,Cd] at hy;obtain⟨u,hu,rfl⟩:=cw.1 hx;rw[hy];exact oC u hu
   ·show(m.cy++[_]).length<=32;rw[au,pD];omega
   ·obtain⟨s0,s1,s2⟩:=hg.u6 k hk;refine⟨s0,?_,?_⟩
    ·show _∈(m.cy++[_]).map _;rw[cR];exact List.mem_append_left _ s1
    ·show _∈(m.cy++[_]).map _;rw[cR];exact List.mem_append_left _ s2
   ·rcases key x hx with h|rfl
    ·exact hg.xq x h
    ·show S (tN a.id) m.ax+S (tB a.id) m.ax<bB;rw[z1,z3];decide
   ·rcases key x hx with h|rfl
    ·exact hg.tX x h
    ·show S (tP a.id) m.ax+S (tC a.id) m.ax<bB;rw[z2,z4];decide
   ·rcases key x hx with h|rfl
    ·exact hg.vn x h
    ·show S (uk a.id) m.ax<=1;rw[z5];decide
def aA.SC{m:aA}{id:Nat}{k:bW}(h:m.named id=some k):∃i,m.name id=some i/\∃hi:i<m.ax.length,m.ax[i]=k/\k.move.id=id:=by
 unfold aA.named at h;rw[CL] at h;unfold aA.name;cases hx:m.ax.findIdx? (λk=>decide (k.move.id=id)) with
 |none=>rw[hx] at h;cases h
 |some i=>
  rw[hx] at h;simp only[Option.bind_some] at h;obtain⟨hi,hk⟩:=aw.1 h;refine⟨i,rfl,hi,hk,?_⟩;have:=(List.findIdx?_eq_some_iff_getElem.1 hx);obtain⟨_,hp,_⟩:=this;rw[hk] at hp;simpa using hp
def aA.P9{m:aA}{id:Nat}(h:m.named id=none):m.name id=none:=by
 unfold aA.named at h;rw[CL] at h;unfold aA.name;cases hx:m.ax.findIdx? (λk=>decide (k.move.id=id)) with
 |none=>rfl
 |some i=>
  rw[hx] at h;simp only[Option.bind_some] at h;have:=(List.findIdx?_eq_some_iff_getElem.1 hx).1;rw[aj this] at h;cases h
def P8{l:List bW}(hn:(l.map (·.move.id)).Nodup){i j:Nat}(hi:i<l.length)(hj:j<l.length)(h:l[i].move.id=l[j].move.id):i=j:=by
 have e1:(l.map (·.move.id))[i]?=some (l[i].move.id):=by rw[eK,aj hi];rfl
 have e2:(l.map (·.move.id))[j]?=some (l[i].move.id):=by rw[eK,aj hj,h];rfl
 exact(List.getElem?_inj (by simpa using hi) hn).1 (e1.trans e2.symm)
def KX{l:List bW}(hn:(l.map (·.move.id)).Nodup){i:Nat}(hi:i<l.length)(h1:l[i].fate=1)(f:Int):(l.map λk=>if k.move.id=l[i].move.id/\k.fate=1 then{k with fate:=f} else k)=l.set i {l[i] with fate:=f}:=by
 apply qk;intro j;rw[eK,dc];by_cases LW:i=j
 ·subst LW;rw[aj hi,ai rfl,ai hi,eW,ai ⟨rfl,h1⟩]
 ·rw[ag LW];cases hj:l[j]? with
  |none=>rfl
  |some k=>
   obtain⟨SX,hk⟩:=aw.1 hj;rw[eW,ag];rintro⟨hh,_⟩;rw[<-hk] at hh;exact LW (P8 hn hi SX hh.symm)
def pM{m:aA}{i:Nat}(hi:i<m.ax.length)(f:Int):(m.dE i f).ax=m.ax.set i {m.ax[i] with fate:=f}:=by
 unfold aA.dE;rw[modify_eq _ _ _ hi]
def bN.dE{m:aA}(hg:bN m){i:Nat}(hi:i<m.ax.length)(h1:m.ax[i].fate=1){f:Int}(hf:f=2\/f=3\/f=4):bN (m.dE i f):=by
 have hk:=pM (m:=m) hi f;have nM:=bR hi;have hw:has m.ax[i].move.ak 2:=(hg.uJ _ nM).2.2.2 (by omega);have ag4:(m.dE i f).cy=m.cy:=rfl;have key:∀k∈(m.dE i f).ax,∃k0∈m.ax,k.move=k0.move/\k.asked=k0.asked/\(k=k0\/k.fate=f/\k0.fate=1):=λk OK=>by
  rw[hk] at OK;rcases eY OK with h|h
  ·exact⟨k,h,rfl,rfl,.inl rfl⟩
  ·subst h;exact⟨m.ax[i],nM,rfl,rfl,.inr ⟨rfl,h1⟩⟩
 refine⟨hg.zero,hg.ids,hg.ou,?_,λk OK=>?_,λk OK=>?_,?_,λa ha=>?_,λa ha=>?_,λa ha=>?_⟩
 ·rw[hk,List.map_set];have:m.ax[i].move.id=(m.ax.map (·.move.id))[i]'(by simpa using hi):=by simp
  have e:(m.ax.map (·.move.id)).set i ({m.ax[i] with fate:=f}:bW).move.id=m.ax.map (·.move.id):=by
   show(m.ax.map (·.move.id)).set i m.ax[i].move.id=_;rw[this,List.set_getElem_self]
  rw[e];exact hg.names
 ·obtain⟨k0,h0,e1,e2,e3⟩:=key k OK;have:=hg.uJ k0 h0;rcases e3 with rfl|⟨e3,e4⟩
  ·exact this
  ·rw[e1];have h2:=this.2.2.2 (by omega);exact⟨by omega,by omega,λ_=>by omega,λ_=>h2⟩
 ·obtain⟨k0,h0,e1,e2,e3⟩:=key k OK;rw[e1];exact hg.u6 k0 h0
 ·rw[hk,iP];exact hg.some_
 ·have:=hg.xq a ha;obtain⟨e1,e2,e3,e4,e5⟩:=ended hi h1 hw hf a.id;rw[hk];omega
 ·have:=hg.tX a ha;obtain⟨e1,e2,e3,e4,e5⟩:=ended hi h1 hw hf a.id;rw[hk];omega
 ·have:=hg.vn a ha;obtain⟨e1,e2,e3,e4,e5⟩:=ended hi h1 hw hf a.id;rw[hk];omega
def oT.release{b:aY}{m:aA}(hs:oT b m)(hg:bN m){i:Nat}(hi:i<m.ax.length)(h1:m.ax[i].fate=1){f:Int}(hf:f=3\/f=4)(n:Nat):oT (b.release m.ax[i].move n f) (m.dE i f):=by
 have nM:=bR hi;have hw:has m.ax[i].move.ak 2:=(hg.uJ _ nM).2.2.2 (by omega);obtain⟨kd,hd,hc⟩:=hg.u6 _ nM;obtain⟨d0,Dv,E5⟩:=cw.1 hd;obtain⟨c0,Q',Dw⟩:=cw.1 hc;have fd:b.find m.ax[i].move.bp=some (Md.full m.ax d0):=by
  rw[hs.find];unfold aA.find;rw[<-E5,oM hg.ids Dv];rfl
 have fc:b.find m.ax[i].move.aP=some (Md.full m.ax c0):=by
  rw[hs.find];unfold aA.find;rw[<-Dw,oM hg.ids Q'];rfl
 unfold aY.release;rw[fd,fc];have hk:=pM (m:=m) hi f;refine⟨?_,?_,hs.clock,hs.ay⟩
 ·show((b.aB.map _).map _)=m.cy.map (Md.full (m.dE i f).ax);rw[hk,hs.aB,oU,oU];apply dS;intro a ha;have hz:=hg.zero a ha;have:=JW (l:=m.ax) (n:=n) (a:=a) (d:=Md.full m.ax d0) (c:=Md.full m.ax c0) hi h1 hw (.inr hf) kd hz.2.2.2.2.1 hz.2.2.2.2.2 (hg.vn a ha) E5 Dw
   (λh=>by
    have e:(m.find m.ax[i].move.bp).map (Md.full m.ax)=some (Md.full m.ax d0):=by rw[<-hs.find];exact fd
    exact hg.one e ha h)
   (λh=>by
    have e:(m.find m.ax[i].move.aP).map (Md.full m.ax)=some (Md.full m.ax c0):=by rw[<-hs.find];exact fc
    exact hg.one e ha h)
  refine Eq.trans this ?_;have h2: ¬f=2:=by omega
  obtain⟨e1,e2,e3,e4,e5⟩:=ended hi h1 hw (.inr hf) a.id;rw[ag (λhh=>h2 hh.1),ag (λhh=>h2 hh.1)];unfold Md.full;dsimp only;rw[e3,e4]
  rfl
 ·show(b.ax.map _)=_;rw[hs.ax,hk];exact KX hg.names hi h1 f
def K5{t:cE}{named:Option bW}{k:bW}{d1 c1 d2 c2:Bool}{many:Nat}(h:has k.move.ak 2-> ¬1<k.fate->d1=d2/\c1=c2):nH t named (some k) d1 c1 many=nH t named (some k) d2 c2 many:=by
 unfold nH;split
 ·rfl
 split
 ·rfl
 split
 ·rfl
 ·dsimp only;split
  ·rfl
  rename_i h2;split
  ·rfl
  split
  ·rfl
  rename_i h3;obtain⟨e1,e2⟩:=h (bh.1 h2) h3;rw[e1,e2]
def z7{t:cE}{named:Option bW}{k:bW}{d c:Bool}{many:Nat}(h:nH t named (some k) d c many=0)(hk:0<=k.fate):named=none/\mT t=0/\jA t.ak/\has k.move.ak 2/\ ¬1<k.fate/\ ¬lF t k.move/\many<96:=by
 unfold nH at h;by_cases h1:mT t≠0
 ·rw[ai h1] at h;exact aT h h1
 rw[ag h1] at h;by_cases h2: ¬jA t.ak
 ·rw[ai h2] at h;exact aT h (by decide)
 rw[ag h2] at h;cases named with
 |some x=>exact aT h (sC t x.asked)
 |none=>
  dsimp only at h;by_cases h3: ¬has k.move.ak 2
  ·rw[ai h3] at h;exact aT h (by decide)
  rw[ag h3] at h;by_cases h4:fH t k.move
  ·rw[ai h4] at h;exact aT h (by decide)
  rw[ag h4] at h;by_cases h5:1<k.fate
  ·rw[ai h5] at h;omega
  rw[ag h5] at h;by_cases h6:lF t k.move
  ·rw[ai h6] at h;exact aT h (by decide)
  rw[ag h6] at h;by_cases h7:has t.ak 4/\d=true
  ·rw[ai h7] at h;exact aT h (by decide)
  rw[ag h7] at h;by_cases h8:has t.ak 4/\c=true
  ·rw[ai h8] at h;exact aT h (by decide)
  rw[ag h8] at h;by_cases h9:96<=many
  ·rw[ai h9] at h;exact aT h (by decide)
  exact⟨rfl,bh.1 h1,bh.1 h2,bh.1 h3,h5,h6,by omega⟩
def Fk{t:cE}(h:mT t=0)(he:jA t.ak): ¬has t.ak 2/\(has t.ak 8↔ ¬has t.ak 4)/\ ¬has t.ak 64/\ ¬has t.ak 128:=by
 unfold mT at h;by_cases h1:t.ak<0\/255<t.ak
 ·rw[ai h1] at h;exact aT h (by decide)
 rw[ag h1] at h;by_cases h2:t.id=0
 ·rw[ai h2] at h;exact aT h (by decide)
 rw[ag h2] at h;by_cases h3:t.id=bB-1
 ·rw[ai h3] at h;exact aT h (by decide)
 rw[ag h3] at h;by_cases h4: ¬iY t.ak
 ·rw[ai h4] at h;exact aT h (by decide)
 have h4:=bh.1 h4;unfold iY at h4;unfold jA at h4 he;obtain⟨g1,g2,g3⟩:=h4;refine⟨λh2=>?_,⟨λh8 h4=>g1 (.inr (.inr ⟨h4,h8⟩)),λh4=>he.resolve_left h4⟩,λWC=>?_,λBX=>?_⟩
 ·rcases he with he|he
  ·exact g1 (.inl ⟨h2,he⟩)
  ·exact g1 (.inr (.inl ⟨h2,he⟩))
 ·have: ¬16<=t.ak:=λhh=>g2 ⟨he,hh⟩;unfold has at WC;omega
 ·have: ¬16<=t.ak:=λhh=>g2 ⟨he,hh⟩;unfold has at BX;omega
def CN{b:aY}{m:aA}(hs:oT b m)(hg:bN m){i:Nat}(hi:i<m.ax.length)(h1:m.ax[i].fate=1){id:Nat}{F:Int}
 (LX:id=m.ax[i].move.bp/\F=64\/id=m.ax[i].move.aP/\F=128):b.mo id (has m.ax[i].move.ak F)=m.closed id i:=by
 have nM:=bR hi;have hw:has m.ax[i].move.ak 2:=(hg.uJ _ nM).2.2.2 (by omega);obtain⟨kd,hd,hc⟩:=hg.u6 _ nM;have CC:id∈m.cy.map (·.id):=by
  rcases LX with⟨h,_⟩|⟨h,_⟩<;>rw[h]<;>assumption
 obtain⟨a,ha,hai⟩:=cw.1 CC;have hfm:m.find id=some a:=by unfold aA.find;rw[<-hai];exact oM hg.ids ha
 have hz:=hg.zero a ha;have hg3:=hg.dE hi h1 (f:=3) (.inr (.inl rfl));have Yj:=pM (m:=m) hi 3;have hff:=hg3.full (a:=a) ha;unfold aA.full at hff;have e1:m.closed id i=decide (8<=(Md.full (m.dE i 3).ax a).ak):=by
  unfold aA.closed;rw[hfm];dsimp only;have:(m.ax.modify i λk=>{k with fate:=3})=(m.dE i 3).ax:=rfl;rw[this,hff]
 have e2:b.mo id (has m.ax[i].move.ak F)=decide (8<=(Md.full m.ax a).ak/\ ¬has m.ax[i].move.ak F):=by
  unfold aY.mo;rw[hs.find,hfm]
  rfl
 rw[e1,e2,decide_eq_decide];have OM:∀l,8<=(Md.full l a).ak↔S (uk a.id) l≠0:=λl=>by
  by_cases h0:S (uk a.id) l=0
  ·have:(Md.full l a).ak=a.ak:=ai h0;rw[this];exact⟨λh=>by omega,λh=>aT h0 h⟩
  ·have:(Md.full l a).ak=a.ak%8+8:=ag h0;rw[this];exact⟨λ_=>h0,λ_=>by omega⟩
 rw[OM,OM,Yj];obtain⟨_,_,_,_,e5⟩:=ended hi h1 hw (f:=3) (.inr (.inl rfl)) a.id;have pG:=hg.vn a ha;rcases LX with⟨h,rfl⟩|⟨h,rfl⟩
 ·have Qr:m.ax[i].move.bp=a.id:=by rw[hai,h]
  have OP: ¬m.ax[i].move.aP=a.id:=λhh=>kd (by rw[Qr,hh]);by_cases hF:has m.ax[i].move.ak 64
  ·rw[ai ⟨by decide,.inl ⟨hF,Qr⟩⟩] at e5;exact⟨λhh=>aT hF hh.2,λhh=>aT (show S (uk a.id) _=0 by omega) hh⟩
  ·rw[ag (by rintro⟨_,hh|hh⟩;exact hF hh.1;exact OP hh.2)] at e5;exact⟨λhh=>by have:=hh.1;omega,λhh=>⟨by omega,hF⟩⟩
 ·have OP:m.ax[i].move.aP=a.id:=by rw[hai,h]
  have Qr: ¬m.ax[i].move.bp=a.id:=λhh=>kd (by rw[hh,OP]);by_cases hF:has m.ax[i].move.ak 128
  ·rw[ai ⟨by decide,.inr ⟨hF,OP⟩⟩] at e5;exact⟨λhh=>aT hF hh.2,λhh=>aT (show S (uk a.id) _=0 by omega) hh⟩
  ·rw[ag (by rintro⟨_,hh|hh⟩;exact Qr hh.2;exact hF hh.1)] at e5;exact⟨λhh=>by have:=hh.1;omega,λhh=>⟨by omega,hF⟩⟩
def oT.oN{b:aY}{m:aA}{t:cE}(hs:oT b m)(hg:bN m):(b.oN t).1=(m.oN t).1/\oT (b.oN t).2 (m.oN t).2/\bN (m.oN t).2:=by
 unfold aY.oN aA.oN;rw[hs.Iy,hs.Iy,hs.ax];cases hp:m.named t.pending with
 |none=>
  rw[aA.P9 hp];exact⟨rfl,hs,hg⟩
 |some k=>
  obtain⟨i,hn,hi,hk,_⟩:=aA.SC hp;rw[hn];dsimp only;rw[aj hi,hk];dsimp only;have nM:k∈m.ax:=by rw[<-hk];exact bR hi
  have hft:=hg.uJ k nM;have ack:nH t (m.named t.id) (some k) (b.mo k.move.bp (has k.move.ak 64)) (b.mo k.move.aP (has k.move.ak 128)) m.ax.length=nH t (m.named t.id) (some k) (m.closed k.move.bp i) (m.closed k.move.aP i) m.ax.length:=by
   refine K5 (λh2 h3=>?_);have h1:m.ax[i].fate=1:=by rw[hk];have:=hft.2.2.1 h2;omega
   have c1:=CN hs hg hi h1 (id:=k.move.bp) (F:=64) (by rw[hk];exact .inl ⟨rfl,rfl⟩);have c2:=CN hs hg hi h1 (id:=k.move.aP) (F:=128) (by rw[hk];exact .inr ⟨rfl,rfl⟩);rw[hk] at c1 c2;exact⟨c1,c2⟩
  rw[ack];by_cases hr:nH t (m.named t.id) (some k) (m.closed k.move.bp i) (m.closed k.move.aP i) m.ax.length≠0
  ·rw[ai hr,ai hr];exact⟨rfl,hs,hg⟩
  rw[ag hr,ag hr];obtain⟨OI,tG,rj,hw,hfa,zg,wi⟩:=z7 (bh.1 hr) hft.1;have h1:m.ax[i].fate=1:=by rw[hk];have:=hft.2.2.1 hw;omega
  obtain⟨f2,f8,f64,f128⟩:=Fk tG rj;have hf:cJ t=2\/cJ t=3:=by unfold cJ;split<;>simp
  have hf':cJ t=2\/cJ t=3\/cJ t=4:=by rcases hf with h|h<;>simp[h]
  have Dt:cJ t=2↔has t.ak 4:=by unfold cJ;split<;>simp_all
  have LY:=hg.dE hi h1 hf';have Wq:=pM (m:=m) hi (cJ t);obtain⟨kd,hd,hc⟩:=hg.u6 k nM;obtain⟨d0,Dv,E5⟩:=cw.1 hd;obtain⟨c0,Q',Dw⟩:=cw.1 hc;have fd:b.find k.move.bp=some (Md.full m.ax d0):=by
   rw[hs.find];unfold aA.find;rw[<-E5,oM hg.ids Dv];rfl
  have fc:b.find k.move.aP=some (Md.full m.ax c0):=by
   rw[hs.find];unfold aA.find;rw[<-Dw,oM hg.ids Q'];rfl
  have r1:∀id st ck,tN id ⟨t,{l7 t k.move with ay:=st,jj:=ck},0⟩=0:=λid st ck=>ag (λhh=>aT hh.1 (show ¬(0:Int)=1 by decide));have r2:∀id st ck,tP id ⟨t,{l7 t k.move with ay:=st,jj:=ck},0⟩=0:=λid st ck=>ag (λhh=>aT hh.1 (show ¬(0:Int)=1 by decide));have rp:∀st ck,iR ⟨t,{l7 t k.move with ay:=st,jj:=ck},0⟩↔cJ t=2:=λst ck=>by
   rw[Dt];show(¬has t.ak 2/\ ¬has t.ak 8)↔_
   constructor
   ·rintro⟨_,hh⟩;by_cases h4:has t.ak 4
    ·exact h4
    ·exact aT (f8.2 h4) hh
   ·intro h4;exact⟨f2,λh8=>f8.1 h8 h4⟩
  have r3:∀id st ck,tB id ⟨t,{l7 t k.move with ay:=st,jj:=ck},0⟩=if cJ t=2/\k.move.bp=id then cM t k.move else 0:=λid st ck=>by
   unfold tB;by_cases h:cJ t=2/\k.move.bp=id
   ·rw[ai h,ai ⟨(rp st ck).2 h.1,h.2⟩];rfl
   ·rw[ag h,ag (λhh=>h ⟨(rp st ck).1 hh.1,hh.2⟩)]
  have r4:∀id st ck,tC id ⟨t,{l7 t k.move with ay:=st,jj:=ck},0⟩=if cJ t=2/\k.move.aP=id then cM t k.move else 0:=λid st ck=>by
   unfold tC;by_cases h:cJ t=2/\k.move.aP=id
   ·rw[ai h,ai ⟨(rp st ck).2 h.1,h.2⟩];rfl
   ·rw[ag h,ag (λhh=>h ⟨(rp st ck).1 hh.1,hh.2⟩)]
  have r5:∀id st ck,uk id ⟨t,{l7 t k.move with ay:=st,jj:=ck},0⟩=0:=λid st ck=>ag (λhh=>by
   rcases hh.1 with h|h
   ·exact f64 h.1
   ·exact f128 h.1)
  have WB:cJ t=2->cM t k.move<=k.move.aU:=λh2=>by
   have h4:=Dt.1 h2;by_cases cf:k.move.aU<cM t k.move
   ·exact aT (.inl ⟨h4,cf⟩) zg
   ·omega
  refine⟨rfl,⟨?_,?_,?_,?_⟩,?_⟩
  ·unfold aY.release;rw[fd,fc];show((b.aB.map _).map _)=m.cy.map (Md.full ((m.dE i (cJ t)).ax++[_]));rw[Wq,hs.aB,oU,oU];apply dS;intro a ha;have hz:=hg.zero a ha;have:=JW (l:=m.ax) (n:=cM t k.move) (a:=a) (d:=Md.full m.ax d0) (c:=Md.full m.ax c0) hi h1 (by rw[hk];exact hw) hf' (by rw[hk];exact kd) hz.2.2.2.2.1 hz.2.2.2.2.2 (hg.vn a ha) (by rw[hk];exact E5) (by rw[hk];exact Dw)
    (λh=>by
     rw[hk] at h
     have e:(m.find k.move.bp).map (Md.full m.ax)=some (Md.full m.ax d0):=by rw[<-hs.find];exact fd
     exact hg.one e ha h)
    (λh=>by
     rw[hk] at h
     have e:(m.find k.move.aP).map (Md.full m.ax)=some (Md.full m.ax c0):=by rw[<-hs.find];exact fc
     exact hg.one e ha h)
   rw[hk] at this;refine Eq.trans this ?_;obtain⟨e1,e2,e3,e4,e5⟩:=ended hi h1 (by rw[hk];exact hw) hf' a.id;rw[hk] at e3 e4;rw[Hx,A3,r1,r2,r3,r4,hk];have LX:(Md.full (m.ax.set i {k with fate:=cJ t}) a).id=a.id:=rfl;rw[LX];have ad3: ¬kh a.id ⟨t,{l7 t k.move with ay:=(m.dE i (cJ t)).ay+1,jj:=(m.dE i (cJ t)).clock},0⟩:=λhh=>by
    rcases hh.1 with h|h
    ·exact f64 h.1
    ·exact f128 h.1
   rw[ag ad3];have q1:(Md.full m.ax a).dq=a.dq+S (tB a.id) m.ax:=rfl;have q2:(Md.full m.ax a).cq=a.cq+S (tC a.id) m.ax:=rfl;rw[q1,q2,<-e3,<-e4]
   rfl
  ·unfold aY.release;rw[fd,fc];show(b.ax.map _)++[_]=(m.dE i (cJ t)).ax++[_];have hms:(m.dE i (cJ t)).ay=m.ay:=rfl;have hmc:(m.dE i (cJ t)).clock=m.clock:=rfl;rw[Wq,hs.ax,hms,hmc]
   congr 1
   ·have:=KX hg.names hi h1 (cJ t);rw[hk] at this⊢;exact this
   ·show[(⟨t,{l7 t k.move with ay:=b.ay+1,jj:=b.clock},0⟩:bW)]=_;rw[hs.ay,hs.clock]
  ·unfold aY.release;rw[fd,fc];exact hs.clock
  ·unfold aY.release;rw[fd,fc];show b.ay+1=m.ay+1;rw[hs.ay]
  ·refine⟨LY.zero,LY.ids,LY.ou,?_,λx hx=>?_,λx hx=>?_,?_,λa ha=>?_,λa ha=>?_,λa ha=>?_⟩
   ·show(((m.dE i (cJ t)).ax++[_]).map _).Nodup;rw[cR,List.nodup_append];refine⟨LY.names,by simp,λx hx y hy=>?_⟩;simp only[cN,ud,Cd] at hy;rw[Wq,List.map_set] at hx;have e:(m.ax.map (·.move.id)).set i ({m.ax[i] with fate:=cJ t}:bW).move.id=m.ax.map (·.move.id):=by
     have:m.ax[i].move.id=(m.ax.map (·.move.id))[i]'(by simpa using hi):=by simp
     show(m.ax.map (·.move.id)).set i m.ax[i].move.id=_;rw[this,List.set_getElem_self]
    rw[e] at hx;obtain⟨z,hz,rfl⟩:=cw.1 hx;intro hxy;unfold aA.named at OI;have:=mW.1 OI z hz;rw[hy] at hxy;have h5:z.move.id=t.id:=hxy;simp[h5] at this
   ·rcases dF.1 hx with hx|hx
    ·exact LY.uJ x hx
    ·simp only[Cd] at hx;subst hx;refine⟨by show(0:Int)<=0;decide,by show(0:Int)<=4;decide,?_⟩;show has t.ak 2↔(1:Int)<=0;exact⟨λh=>aT h f2,λh=>aT h (by decide)⟩
   ·rcases dF.1 hx with hx|hx
    ·exact LY.u6 x hx
    ·simp only[Cd] at hx;subst hx;exact⟨kd,hd,hc⟩
   ·show((m.dE i (cJ t)).ax++[_]).length<=96;rw[au,pD,Wq,iP];omega
   ·show S (tN a.id) ((m.dE i (cJ t)).ax++[_])+S (tB a.id) ((m.dE i (cJ t)).ax++[_])<bB;rw[tL,tL,r1,r3,Wq];obtain⟨e1,e2,e3,e4,e5⟩:=ended hi h1 (by rw[hk];exact hw) hf' a.id;have:=hg.xq a ha;rw[hk] at e1 e3;rw[hk];by_cases hq:cJ t=2/\k.move.bp=a.id
    ·have:=WB hq.1;rw[ai hq.2] at e1;rw[ai hq];omega
    ·rw[ag hq];omega
   ·show S (tP a.id) ((m.dE i (cJ t)).ax++[_])+S (tC a.id) ((m.dE i (cJ t)).ax++[_])<bB;rw[tL,tL,r2,r4,Wq];obtain⟨e1,e2,e3,e4,e5⟩:=ended hi h1 (by rw[hk];exact hw) hf' a.id;have:=hg.tX a ha;rw[hk] at e2 e4;rw[hk];by_cases hq:cJ t=2/\k.move.aP=a.id
    ·have:=WB hq.1;rw[ai hq.2] at e2;rw[ai hq];omega
    ·rw[ag hq];omega
   ·show S (uk a.id) ((m.dE i (cJ t)).ax++[_])<=1;rw[tL,r5,Wq];obtain⟨e1,e2,e3,e4,e5⟩:=ended hi h1 (by rw[hk];exact hw) hf' a.id;have:=hg.vn a ha;rw[hk] at e5;rw[hk];omega
def oT.qL{b:aY}{m:aA}{t:cE}(hs:oT b m)(hg:bN m):(b.qL t).1=(m.qL t).1/\oT (b.qL t).2 (m.qL t).2/\bN (m.qL t).2:=by
 unfold aY.qL aA.qL;split
 ·exact hs.oN hg
 ·exact hs.move hg
def KY{m:aA}{i:Nat}(hi:i<m.ax.length)(clock:Int):((m.dE i 4).ax.map λk=>if kY clock k then{k with fate:=4} else k)=(m.ax.map λk=>if kY clock k then{k with fate:=4} else k)\/ ¬kY clock m.ax[i]:=by
 by_cases ho:kY clock m.ax[i]
 ·left
  rw[pM hi];apply qk;intro j;rw[eK,eK,dc];by_cases LW:i=j
  ·subst LW;rw[ai rfl,ai hi,aj hi,eW,eW,ai ho];rw[ag (by rintro⟨hh,_⟩;exact aT hh (show ¬(4:Int)=1 by decide))]
  ·rw[ag LW]
 ·exact .inr ho
def KZ{m:aA}{clock:Int}(h:∀k∈m.ax,¬kY clock k):(m.ax.map λk=>if kY clock k then{k with fate:=4} else k)=m.ax:=by
 have:m.ax.map (λk=>if kY clock k then{k with fate:=4} else k)=m.ax.map id:=dS λk hk=>ag (h k hk);rw[this,List.map_id]
section
variable {α σ τ:Type}
def cn(linked:α->Bool):List α->Nat×Bool
 |[]=>(0,false)
 |x::l=>if linked x then((cn linked l).1+1,(cn linked l).2) else(1,true)
def ia(f:σ->α->Int×σ):σ->List α->Nat->Option (Nat×Int)×σ
 |s,[],_=>(none,s)
 |s,x::l,i=>if(f s x).1≠0 then(some (i,(f s x).1),s) else ia f (f s x).2 l (i+1)
def kA(n:Nat):Option (Nat×Int)->List Int
 |none=>bn n 0
 |some (i,c)=>(bn n 1).set i c
def hG(f:σ->α->Int×σ)(linked:α->Bool):Nat->σ->List α->List Int×σ
 |0,s,_=>([],s)
 |_+1,s,[]=>([],s)
 |fuel+1,s,x::l=>
  if(cn linked (x::l)).2=false then(kA (cn linked (x::l)).1 (some ((cn linked (x::l)).1-1,2)),s)
  else match ia f s ((x::l).take (cn linked (x::l)).1) 0 with
   |(none,s')=>(kA (cn linked (x::l)).1 none++(hG f linked fuel s' ((x::l).drop (cn linked (x::l)).1)).1,(hG f linked fuel s' ((x::l).drop (cn linked (x::l)).1)).2)
   |(some e,_)=>(kA (cn linked (x::l)).1 (some e)++(hG f linked fuel s ((x::l).drop (cn linked (x::l)).1)).1,(hG f linked fuel s ((x::l).drop (cn linked (x::l)).1)).2)
def HF{f:σ->α->Int×σ}{g:τ->α->Int×τ}{R:σ->τ->Prop}(h:∀s t x,R s t->(f s x).1=(g t x).1/\R (f s x).2 (g t x).2):
 ∀(l:List α)(s:σ)(t:τ)(i:Nat),R s t->(ia f s l i).1=(ia g t l i).1/\((ia f s l i).1=none->R (ia f s l i).2 (ia g t l i).2)
 |[],s,t,i,hr=>⟨rfl,λ_=>hr⟩
 |x::l,s,t,i,hr=>by
  obtain⟨h1,h2⟩:=h s t x hr;unfold ia;rw[h1];by_cases h0:(g t x).1≠0
  ·rw[ai h0,ai h0];exact⟨rfl,λhh=>by cases hh⟩
  ·rw[ag h0,ag h0];exact HF h l _ _ _ h2
def AD{f:σ->α->Int×σ}{g:τ->α->Int×τ}{R:σ->τ->Prop}(linked:α->Bool)(h:∀s t x,R s t->(f s x).1=(g t x).1/\R (f s x).2 (g t x).2):
 ∀(n:Nat)(l:List α)(s:σ)(t:τ),R s t->(hG f linked n s l).1=(hG g linked n t l).1/\R (hG f linked n s l).2 (hG g linked n t l).2
 |0,l,s,t,hr=>⟨rfl,hr⟩
 |n+1,[],s,t,hr=>⟨rfl,hr⟩
 |n+1,x::l,s,t,hr=>by
  unfold hG;by_cases hw:(cn linked (x::l)).2=false
  ·rw[ai hw,ai hw];exact⟨rfl,hr⟩
  rw[ag hw,ag hw];obtain⟨e1,e2⟩:=HF h ((x::l).take (cn linked (x::l)).1) s t 0 hr;cases hf:ia f s ((x::l).take (cn linked (x::l)).1) 0 with
  |mk o s'=>
   cases hg:ia g t ((x::l).take (cn linked (x::l)).1) 0 with
   |mk o' t'=>
    rw[hf,hg] at e1 e2;dsimp only at e1 e2;subst e1;cases o with
    |none=>
     obtain⟨i1,i2⟩:=AD linked h n ((x::l).drop (cn linked (x::l)).1) s' t' (e2 rfl);dsimp only;rw[i1];exact⟨rfl,i2⟩
    |some e=>
     obtain⟨i1,i2⟩:=AD linked h n ((x::l).drop (cn linked (x::l)).1) s t hr;dsimp only;rw[i1];exact⟨rfl,i2⟩
end
end Go.Md
namespace Go.Up
open Go.Sep Go.Den Go.RowKit Go.Prog Go.Md Go.cD
abbrev aY:=Go.Md.aY
structure AG(a:bC):Prop where
 ok:wD a
 yB:mG a
 ak:0<=a.ak/\a.ak<16
 ay:0<=a.ay/\a.ay<1000
structure KG(k:bW):Prop where
 asked:yJ k.asked
 move:yJ k.move
 Nq:j0 k.asked
 Ol:j0 k.move
 uR:0<=k.asked.ak/\k.asked.ak<256
 wa:0<=k.move.ak/\k.move.ak<256
 fate:0<=k.fate/\k.fate<=4
 cu:0<=k.move.cu/\k.move.cu<=1073741824
 jj:0<=k.move.jj/\k.move.jj<=1099511627776
structure fk(b:aY):Prop where
 ids:(b.aB.map (·.id)).Nodup
 names:(b.ax.map (·.move.id)).Nodup
 ou:b.aB.length<=32
 many:b.ax.length<=96
 Rg:∀a∈b.aB,AG a
 Q3:∀k∈b.ax,KG k
 rising:b.ax.Pairwise λx y=>x.move.ay<y.move.ay
 dG:∀k∈b.ax,1<=k.move.ay/\k.move.ay<=b.ay
 clock:0<=b.clock/\b.clock<=1099511627776
 ay:b.ay=b.aB.length+b.ax.length
def idxOf{α:Type}(key:α->Nat)(l:List α):(Nat->Option Int)×Nat:=(λid=>(l.findIdx? λx=>key x=id).map Int.ofNat,l.length)
section
variable {α:Type} {key:α->Nat} {l:List α} {x y:α} {i id:Nat}
def wh(h:l.findIdx? (λx=>key x=id)=some i):∃hi:i<l.length,key l[i]=id/\l.find? (λx=>key x=id)=some l[i]:=by
 obtain⟨hi,h1,h2⟩:=List.findIdx?_eq_some_iff_getElem.1 h;refine⟨hi,by simpa using h1,?_⟩;rw[List.find?_eq_some_iff_getElem];exact⟨h1,i,hi,rfl,λj hj=>by simpa using h2 j hj⟩
def AZ(h:l.findIdx? (λx=>key x=id)=none):l.find? (λx=>key x=id)=none:=by
 rw[List.findIdx?_eq_none_iff] at h;rw[mW];intro a ha;have:=h a ha;simpa using this
def qA(h:l.find? (λx=>key x=id)=none):l.findIdx? (λx=>key x=id)=none:=by
 rw[mW] at h;rw[List.findIdx?_eq_none_iff];intro a ha;have:=h a ha;simpa using this
def AY(h:l.find? (λa=>key a=key x)=none):idxOf key (l++[x])=(wE (idxOf key l).1 (key x) (some (l.length:Int)),(idxOf key l).2+1):=by
 unfold idxOf;refine Prod.ext ?_ (by simp)
 funext id
 dsimp only[wE];rw[List.findIdx?_append];by_cases e:id=key x
 ·subst e;rw[ai rfl,qA h];simp
 ·rw[ag e];have:List.findIdx? (λa=>decide (key a=id)) [x]=none:=by simp;exact λh=>e h.symm
  rw[this];cases l.findIdx? λx=>decide (key x=id)<;>simp
def OD(hi:i<l.length)(hk:key x=key l[i]):idxOf key (l.set i x)=idxOf key l:=by
 unfold idxOf;refine Prod.ext ?_ (by simp)
 funext id
 dsimp only
 congr 1
 have adS:∀(l:List α)(i:Nat)(hi:i<l.length),key x=key l[i]->(l.set i x).findIdx? (λx=>key x=id)=l.findIdx? λx=>key x=id:=by
  intro l
  induction l with
  |nil=>intro i hi;simp at hi
  |cons a l ih=>
   intro i hi hk;cases i with
   |zero=>simp only[List.set_cons_zero,List.findIdx?_cons];simp at hk;rw[hk]
   |succ i=>simp only[mV,List.findIdx?_cons];rw[ih i (by simpa using hi) (by simpa using hk)]
 exact adS l i hi hk
def yS(hn:(l.map key).Nodup)(hi:i<l.length):l.findIdx? (λx=>key x=key l[i])=some i:=by
 rw[List.findIdx?_eq_some_iff_getElem];refine⟨hi,by simp,λj hj=>?_⟩;have cf:j<l.length:=by omega
 have:=pT.1 hn j i (by simpa using cf) (by simpa using hi) hj;simpa using this
def map_set(hn:(l.map key).Nodup)(hi:i<l.length)(g:α->α):(l.map λx=>if key x=key l[i] then g x else x)=l.set i (g l[i]):=by
 apply List.ext_getElem (by simp);intro j h1 h2;simp only[bP] at h1;rw[List.getElem_map,List.getElem_set];by_cases e:i=j
 ·subst e;simp
 ·rw[ag e,ag];intro hk;have a:=yS hn h1;rw[hk,yS hn hi] at a;exact e (bE.inj a)
end
def fo:Nat->List bW->List nN
 |_,[]=>[]
 |i,k::l=>(k.move.ay,(i:Int))::fo (i+1) l
def lY:∀(i:Nat)(l:List bW),(fo i l).length=l.length
 |_,[]=>rfl
 |i,k::l=>by simp[fo,lY (i+1) l]
def lZ:∀(i:Nat)(l:List bW)(j:Nat),(fo i l)[j]?=(l[j]?).map λk=>(k.move.ay,((i+j:Nat):Int))
 |_,[],j=>by simp[fo]
 |i,k::l,0=>by simp[fo]
 |i,k::l,j+1=>by simp only[fo,bO,lZ (i+1) l j];rw[show i+1+j=i+(j+1) by omega]
def vG:∀(i:Nat)(l:List bW)(k:bW),fo i (l++[k])=fo i l++[(k.move.ay,((i+l.length:Nat):Int))]
 |i,[],k=>by simp[fo]
 |i,x::l,k=>by simp only[kV,fo,vG (i+1) l k];simp;omega
def Av{i:Nat}{l:List bW}{x:nN}(h:x∈fo i l):∃k∈l,x.1=k.move.ay:=by
 obtain⟨j,hj⟩:=qj h;rw[lZ] at hj;cases hk:l[j]? with
 |none=>rw[hk] at hj;cases hj
 |some k=>rw[hk] at hj;cases hj;exact⟨k,cb hk,rfl⟩
def Ic{l:List bW}{j:Nat}{k:bW}(i:Nat)(hj:j<l.length)(hk:k.move.ay=l[j].move.ay):fo i (l.set j k)=fo i l:=by
 apply qk;intro n;rw[lZ,lZ,dc];by_cases e:j=n
 ·subst e;rw[ai rfl,ai hj,aj hj];simp[hk]
 ·rw[ag e]
def fR(k:bW):Option Item:=if k.fate=1/\0<k.move.cu then some ⟨k.move.jj+k.move.cu,k.move.ay,k.move.id⟩ else none
abbrev IC(l:List bC):=idxOf (λx:bC=>x.id) l
abbrev FY(l:List bW):=idxOf (λx:bW=>x.move.id) l
def fF(b:aY):C:=⟨b.aB,b.ax,IC b.aB,FY b.ax,fo 0 b.ax,b.ax.filterMap fR,b.clock,b.ay⟩
def rm{k:bW}{x:Item}(h:fR k=some x):x.ay=k.move.ay/\x.id=k.move.id/\x.due=k.move.jj+k.move.cu/\k.fate=1/\0<k.move.cu:=by
 unfold fR at h;split at h
 ·rename_i hc;cases h;exact⟨rfl,rfl,rfl,hc⟩
 ·cases h
section
variable {b:aY}
def fk.yo(h:fk b):sG (fo 0 b.ax):=by
 unfold sG;rw[pT];intro i j hi hj LW;have uY:i<b.ax.length:=by simpa [lY] using hi
 have LU:j<b.ax.length:=by simpa [lY] using hj
 have e1:=lZ 0 b.ax i;have e2:=lZ 0 b.ax j;rw[aj hi,aj uY] at e1;rw[aj hj,aj LU] at e2;have e1:=bE.inj e1;have e2:=bE.inj e2;rw[e1,e2];exact pT.1 h.rising i j uY LU LW
def A6(b:aY):(b.ax.filterMap fR).length<=b.ax.length:=List.length_filterMap_le _ _
def fk.Ps(h:fk b){i j:Nat}(hi:i<b.ax.length)(hj:j<b.ax.length)(he:b.ax[i].move.ay=b.ax[j].move.ay):i=j:=by
 rcases Nat.lt_trichotomy i j with h1|h1|h1
 ·have:=pT.1 h.rising i j hi hj h1;omega
 ·exact h1
 ·have:=pT.1 h.rising j i hj hi h1;omega
def fk.Tm(h:fk b){i:Nat}(hi:i<b.ax.length){k:bW}(hk:fR k=none){x:Item}(hx:fR b.ax[i]=some x):
 (x::(b.ax.set i k).filterMap fR).Perm (b.ax.filterMap fR)/\∀y∈(b.ax.set i k).filterMap fR,y.ay≠x.ay:=by
 constructor
 ·have key:∀(l:List bW)(i:Nat)(hi:i<l.length),fR l[i]=some x->(x::(l.set i k).filterMap fR).Perm (l.filterMap fR):=by
   intro l
   induction l with
   |nil=>intro i hi;simp at hi
   |cons a l ih=>
    intro i hi hx;cases i with
    |zero=>
     simp only[List.set_cons_zero,List.getElem_cons_zero] at hx⊢;rw[List.filterMap_cons_none hk,List.filterMap_cons_some hx]
    |succ i=>
     simp only[mV,List.getElem_cons_succ] at hx⊢;have:=ih i (by simpa using hi) hx;cases ha:fR a with
     |none=>rw[List.filterMap_cons_none ha,List.filterMap_cons_none ha];exact this
     |some y=>rw[List.filterMap_cons_some ha,List.filterMap_cons_some ha];exact(bU.swap _ _ _).trans (this.cons y)
  exact key _ i hi hx
 ·intro y hy he;obtain⟨a,ha,hay⟩:=List.mem_filterMap.1 hy;obtain⟨j,hj⟩:=qj ha;rw[dc] at hj;by_cases e:i=j
  ·subst e;rw[ai rfl,ai hi] at hj;cases hj;rw[hk] at hay;cases hay
  ·rw[ag e] at hj;have SX:=(aw.1 hj).1;have s1:=(rm hay).1;have s2:=(rm hx).1;have hja:b.ax[j]=a:=by rw[aj SX] at hj;exact bE.inj hj
   exact e (h.Ps hi SX (by rw[hja];omega))
def Gx{l:List bW}{i:Nat}(hi:i<l.length){k:bW}(hk:fR k=none)(hx:fR l[i]=none):(l.set i k).filterMap fR=l.filterMap fR:=by
 induction l generalizing i with
 |nil=>simp at hi
 |cons a l ih=>
  cases i with
  |zero=>simp only[List.set_cons_zero,List.getElem_cons_zero] at hx⊢;rw[List.filterMap_cons_none hk,List.filterMap_cons_none hx]
  |succ i=>
   simp only[mV,List.getElem_cons_succ] at hx⊢;rw[List.filterMap_cons,List.filterMap_cons,ih (by simpa using hi) hx]
end
def Ext(c:C)(hs:List C)(c':C)(ft:List C)(n:Nat):Prop:=∃ZK,ft=ZK++hs/\(c'::ZK).getLast?=some c/\ZK.length<=n
def Ext.refl(c:C)(hs:List C)(n:Nat):Ext c hs c hs n:=⟨[],rfl,rfl,aE _⟩
def Ext.trans{c c' c'':C}{hs ft xX:List C}{n m:Nat}(h1:Ext c hs c' ft n)(h2:Ext c' ft c'' xX m):Ext c hs c'' xX (n+m):=by
 obtain⟨m1,rfl,h3,h4⟩:=h1;obtain⟨m2,rfl,h5,h6⟩:=h2;refine⟨m2++m1,by simp,?_,by simp;omega⟩;cases m1 with
 |nil=>simp at h3;subst h3;simpa using h5
 |cons a m1=>
  rw[List.getLast?_cons_cons] at h3;rw[<-kV,List.getLast?_append,h3];rfl
def Ext.mono{c c':C}{hs ft:List C}{n m:Nat}(h:Ext c hs c' ft n)(hm:n<=m):Ext c hs c' ft m:=by
 obtain⟨m1,h1,h3,h4⟩:=h;exact⟨m1,h1,h3,by omega⟩
def Ext.len{c c':C}{hs ft:List C}{n:Nat}(h:Ext c hs c' ft n):ft.length<=hs.length+n:=by
 obtain⟨m1,rfl,h3,h4⟩:=h;simp;omega
def Ext.back{c c':C}{hs ft:List C}{n:Nat}(h:Ext c hs c' ft n):uQ hs.length c' ft=(c,hs):=by
 obtain⟨m1,rfl,h3,-⟩:=h
 induction m1 generalizing c' with
 |nil=>simp at h3;subst h3;exact CR (aG _)
 |cons a m1 ih=>
  rw[List.getLast?_cons_cons] at h3;rw[kV];unfold uQ;rw[ai (by simp)];exact ih h3
def cO(p:Nat)(x:aY×List C):HP:=FC (fk x.1) (cP p (fF x.1,x.2))
section
variable {W:World} {L R:LH} {K:VK} {X:WK} {p:Nat} {b:aY} {hs:List C} {f:aY×List C->LH} {id:Nat} {a old:bC}
def LK[i:Lc (cO p) L (b,hs) f](h:∀la lk ti tn vs bx R,fk b->jV p la lk bx vs hs (fF b)->
 (∀M b' ft F5 oe Y,fk b'->jV p la lk oe F5 ft (fF b')->T W (M++f (b',ft)) Y->T W (M++gM p (gp la lk ti tn F5 (fF b'))::sj aK 14 la (p,(fF b').aB)::sj bG 33 lk (p,(fF b').ax)::oV ti (fF b').po::oV tn (fF b').ib::vO oe::R) Y)->
 T W (gM p (gp la lk ti tn vs (fF b))::sj aK 14 la (p,(fF b).aB)::sj bG 33 lk (p,(fF b).ax)::oV ti (fF b).po::oV tn (fF b).ib::vO bx::R) X):T W L X:=
 Db (P:=cO p) λR pG w hw=>by
  obtain⟨hg,hw⟩:=hw.and;refine TL (λla lk ti tn vs bx hc=>h la lk ti tn vs bx R hg hc λM b' ft F5 oe Y Wu KQ hy=>?_) w hw;refine T.perm (DC (R:=M++R) KQ (T.perm ?_ iy.symm)) (by
   have:=bu (l₁:=M) (l₂:=[gM p (gp la lk ti tn F5 (fF b')),sj aK 14 la (p,(fF b').aB),sj bG 33 lk (p,(fF b').ax),oV ti (fF b').po,oV tn (fF b').ib,vO oe])|>.append_right R
   simpa using this)
  refine λw' Q4=>pG M (b',ft) Y hy w' ?_;have:=(Q4.perm iy);exact(St.and_intro Wu this).perm iy.symm
def qm[i:Lc (cO p) L (b,hs) f](h:fk b->T W L X):T W L X:=λw hw=>by
 obtain⟨k,hk,_⟩:=i.at_;exact h ((hw.focus hk).and).1 w hw
def FO{f1:Core->LH}{f2:Nat×List bC->LH}{f3:(Nat->Option Int)×Nat->LH}{q:Core}[i1:Lc (gM p) L q f1][i2:Lc (sj aK 14 q.la) L (p,b.aB) f2][i3:Lc (oV q.ti) L (IC b.aB) f3](ou:b.aB.length<=32)
 (h:T W L (K (.tuple ⟨[.agg ⟨aK ((b.find id).getD zA)⟩,.b (b.find id).isSome]⟩))):T W L (dO (ah p) (nm id) K):=by
 unfold dO;apply ws;intros;refine CU (t:=q.ti) (x:=IC b.aB) ?_;cases hi:(b.aB.findIdx? λx=>x.id=id) with
 |none=>
  have e1:(IC b.aB).1 id=none:=by show ya _ _=_;rw[hi];rfl
  have e2:b.find id=none:=AZ (key:=λx:bC=>x.id) hi;rw[e1];rw[e2] at h;simp only[eQ,dy,gw,dx] at h⊢;apply ws;exact T.dp h
 |some n=>
  have e1:(IC b.aB).1 id=some (n:Int):=by show ya _ _=_;rw[hi];rfl
  obtain⟨hn,hk,hf⟩:=wh (key:=λx:bC=>x.id) hi;have e2:b.find id=some b.aB[n]:=hf;rw[e1];rw[e2] at h;simp only[eQ,dy,gw,dx] at h⊢;apply ws;refine adJ (l:=q.la) (x:=b.aB[n]) (aj hn) (by omega) ?_;apply ws;exact T.dp h
def wB[i:Lc (cO p) L (b,hs) f](h:T W L (K (.tuple ⟨[.agg ⟨aK ((b.find id).getD zA)⟩,.b (b.find id).isSome]⟩))):T W L (dO (ah p) (nm id) K):=by
 have hL:f (b,hs)=L:=i.same;refine LK (p:=p) λla lk ti tn vs bx R hg hc pG=>?_;exact FO (b:=b) hg.ou (pG [] b hs vs bx _ hg hc (by rw[hL];exact h))
def Jf{f1:Core->LH}{f2:Nat×List bW->LH}{f3:(Nat->Option Int)×Nat->LH}{q:Core}[i1:Lc (gM p) L q f1][i2:Lc (sj bG 33 q.lk) L (p,b.ax) f2][i3:Lc (oV q.tn) L (FY b.ax) f3](ou:b.ax.length<=96)
 (h:T W L (K (.tuple ⟨[.agg ⟨bG ((b.named id).getD zK)⟩,.b (b.named id).isSome]⟩))):T W L (il (ah p) (nm id) K):=by
 unfold il;apply ws;intros;refine CU (t:=q.tn) (x:=FY b.ax) ?_;cases hi:(b.ax.findIdx? λx=>x.move.id=id) with
 |none=>
  have e1:(FY b.ax).1 id=none:=by show ya _ _=_;rw[hi];rfl
  have e2:b.named id=none:=AZ (key:=λx:bW=>x.move.id) hi;rw[e1];rw[e2] at h;simp only[eQ,dy,gw,dx] at h⊢;apply ws;exact T.dp h
 |some n=>
  have e1:(FY b.ax).1 id=some (n:Int):=by show ya _ _=_;rw[hi];rfl
  obtain⟨hn,hk,hf⟩:=wh (key:=λx:bW=>x.move.id) hi;have e2:b.named id=some b.ax[n]:=hf;rw[e1];rw[e2] at h;simp only[eQ,dy,gw,dx] at h⊢;apply ws;refine Uj (l:=q.lk) (x:=b.ax[n]) (aj hn) (by omega) ?_;apply ws;exact T.dp h
def Je[i:Lc (cO p) L (b,hs) f](h:T W L (K (.tuple ⟨[.agg ⟨bG ((b.named id).getD zK)⟩,.b (b.named id).isSome]⟩))):T W L (il (ah p) (nm id) K):=by
 have hL:f (b,hs)=L:=i.same;refine LK (p:=p) λla lk ti tn vs bx R hg hc pG=>?_;exact Jf (b:=b) hg.many (pG [] b hs vs bx _ hg hc (by rw[hL];exact h))
def Ub[i:Lc (cO p) L (b,hs) f](h:T W L (K (.b (decide (b.ax.length<96))))):T W L (om (some ⟨p,0,none⟩) K):=by
 have hL:f (b,hs)=L:=i.same;refine LK (p:=p) λla lk ti tn vs bx R hg hc pG=>?_;have fin:=pG [] b hs vs bx _ hg hc (by rw[hL];exact h);unfold om
 repeat' first|apply ws|apply wb|refine Nw ?_
 refine T.fin fin ?_
 congr 1
 rw[decide_eq_decide];show((b.ax.length:Nat):Int)<96↔_;omega
def N4[i:Lc (cO p) L (b,hs) f](h:T W L (K (.i (hs.length:Int)))):T W L (fB (ah p) K):=by
 have hL:f (b,hs)=L:=i.same;refine LK (p:=p) λla lk ti tn vs bx R hg hc pG=>?_;have fin:=pG [] b hs vs bx _ hg hc (by rw[hL];exact h);unfold fB;refine yk ?_;refine CY ?_;refine aaY (p:=p) ?_;apply ws;have:(gp la lk ti tn vs (fF b)).vs.length=hs.length:=by show vs.reverse.length=_;rw[jb,hc.len]
 rw[this];exact fin
def JD(hg:fk b){n:Nat}(hn:n<b.aB.length)(hk:b.aB[n].id=a.id):fF (b.bA a)={fF b with aB:=b.aB.set n {a with ay:=b.aB[n].ay}}:=by
 have e:(b.bA a).aB=b.aB.set n {a with ay:=b.aB[n].ay}:=by
  show(b.aB.map λx=>if x.id=a.id then{a with ay:=x.ay} else x)=_;have:=map_set (key:=λx:bC=>x.id) hg.ids hn λx=>{a with ay:=x.ay};simp only[hk] at this;exact this
 unfold fF;have e9:IC (b.aB.set n {a with ay:=b.aB[n].ay})=IC b.aB:=OD hn hk.symm;rw[e,e9]
 rfl
def fk.bA(hg:fk b){n:Nat}(hn:n<b.aB.length)(hk:b.aB[n].id=a.id)(ha:AG {a with ay:=b.aB[n].ay}):fk (b.bA a):=by
 have e:(b.bA a).aB=b.aB.set n {a with ay:=b.aB[n].ay}:=congrArg C.aB (JD hg hn hk);have aeA:(b.bA a).aB.map (·.id)=b.aB.map (·.id):=by
  rw[e,List.map_set];refine List.ext_getElem (by simp) λi h1 h2=>?_;rw[List.getElem_set];split
  ·rename_i he;subst he;simp[hk]
  ·rfl
 refine⟨by rw[aeA];exact hg.ids,hg.names,by rw[e,iP];exact hg.ou,hg.many,?_,hg.Q3,hg.rising,hg.dG,hg.clock,?_⟩
 ·rw[e];intro x hx;rcases eY hx with hx|hx
  ·exact hg.Rg x hx
  ·subst hx;exact ha
 ·rw[e,iP];exact hg.ay
def I8[i:Lc (cO p) L (b,hs) f](hf:b.find a.id=some old)(ha:AG {a with ay:=old.ay})(hl:hs.length<900000)
 (h:∀ft,Ext (fF b) hs (fF (b.bA a)) ft 1->T W (f (b.bA a,ft)) (K (.i 0))):T W L (ky (ah p) (aK a) K):=by
 refine LK (p:=p) λla lk ti tn vs bx R hg hc pG=>?_;have ou:=hg.ou;obtain⟨n,hi⟩:∃n,(b.aB.findIdx? λx=>x.id=a.id)=some n:=by
  cases hi:(b.aB.findIdx? λx=>x.id=a.id) with
  |none=>rw[show b.find a.id=none from AZ (key:=λx:bC=>x.id) hi] at hf;cases hf
  |some n=>exact⟨n,rfl⟩
 obtain⟨hn,hk,hff⟩:=wh (key:=λx:bC=>x.id) hi;have e2:b.find a.id=some b.aB[n]:=hff;rw[hf] at e2;have e3:=bE.inj e2;subst e3;have e1:(IC b.aB).1 a.id=some (n:Int):=by show ya _ _=_;rw[hi];rfl
 have Gu:=JD hg hn hk;have OF:(gp la lk ti tn vs (fF b)).vs.length<1000000:=by show vs.reverse.length<_;rw[jb,hc.len];omega
 unfold ky;apply ws;intros;refine FO (b:=b) hg.ou ?_;rw[hf];simp only[dy,dx];apply ws;intros;refine CU (t:=ti) (x:=(fF b).po) ?_;rw[show(fF b).po.1 a.id=some (n:Int) from e1];simp only[dy,dx];apply ws;refine aa6 (l:=la) (y:=b.aB[n]) (aj hn) (show b.aB.length<_ by omega) OF λr4 r1 r2=>?_;apply ws;refine eL (eL (eL (eL (eL ?_))));have II:∀oe,(∀x∈bx,x∈oe)->(r4,aK b.aB[n])∈oe->(r1,[.p (some (ad la 0))])∈oe->(r2,[.i (n:Int)])∈oe->jV p la lk oe (DA r4 r1 r2::vs) (fF b::hs) (fF (b.bA a)):=by
  intro oe Ak m1 m2 m3;refine⟨?_,hc.mono Ak⟩;have:=CV.Vb (p:=p) (la:=la) (lk:=lk) (c:=fF (b.bA a)) m1 m2 m3 (by rw[Gu];simpa using hn);have ee:{fF (b.bA a) with aB:=(fF (b.bA a)).aB.set n b.aB[n]}=fF b:=by
   rw[Gu];simp only[jk,List.set_getElem_self]
   rfl
  rw[ee] at this;exact this
 have fin:=λoe c1=>pG [] (b.bA a) (fF b::hs) (DA r4 r1 r2::vs) oe _ (hg.bA hn hk ha) c1 (h _ ⟨[fF b],rfl,rfl,aG _⟩);rw[Gu] at fin;simp only[gp,xC] at fin;exact fin _ (Gu▸II _ (λx hx=>by simp[hx]) (by simp) (by simp) (by simp))
end
section
variable {W:World} {L R:LH} {K:VK} {X:WK} {p:Nat} {b:aY} {hs:List C} {f:aY×List C->LH} {id:Nat} {a old:bC}
def Pk{q:Core}{f1:Core->LH}[i:Lc (gM p) L q f1](hl:q.vs.length<1000000)(hs:0<=q.ay/\q.ay<1000000)
 (h:∀r,T W (Sep.pt r [.p (some (ad p 0))]::f1 {q with vs:=q.vs++[As r],ay:=q.ay+1}) (K (.i (q.ay+1)))):T W L (og (ah p) K):=by
 unfold og
 repeat' first|apply ws;intros|apply wb|refine Mc ?_
 rename_i r;rw[aW (by omega)];have i2:=i.next {q with ay:=q.ay+1};refine vP (p:=p) (q:={q with ay:=q.ay+1}) hl rfl rfl ?_;have i3:=i.next {q with vs:=q.vs++[As r],ay:=q.ay+1};apply ws;exact h r
def aY.more(b:aY)(a:bC):aY:={b with ay:=b.ay+1,aB:=b.aB++[{a with ay:=b.ay+1}]}
def fk.more(hg:fk b)(hf:b.find a.id=none)(ou:b.aB.length<32)(ha:AG {a with ay:=b.ay+1}):fk (b.more a):=by
 have uX:=hg.ay;have many:=hg.many;refine⟨?_,hg.names,by show(b.aB++[_]).length<=32;simp;omega,hg.many,?_,hg.Q3,hg.rising,λk hk=>⟨(hg.dG k hk).1,by have:=(hg.dG k hk).2;show _<=b.ay+1;omega⟩,hg.clock,by show b.ay+1=(((b.aB++[_]).length:Nat):Int)+(b.ax.length:Int);simp;omega⟩
 ·show((b.aB++[_]).map _).Nodup;rw[cR];rw[List.nodup_append];refine⟨hg.ids,by simp,?_⟩;intro x hx y hy;simp at hy;subst hy;obtain⟨z,hz,rfl⟩:=cw.1 hx;have:=mW.1 hf z hz;simpa using this
 ·intro x hx;rcases dF.1 hx with hx|hx
  ·exact hg.Rg x hx
  ·simp at hx;subst hx;exact ha
def ZJ(hf:b.find a.id=none):fF (b.more a)={fF b with ay:=b.ay+1,po:=(wE (fF b).po.1 a.id (some (b.aB.length:Int)),(fF b).po.2+1),aB:=b.aB++[{a with ay:=b.ay+1}]}:=by
 have e9:IC (b.aB++[{a with ay:=b.ay+1}])=(wE (IC b.aB).1 a.id (some (b.aB.length:Int)),(IC b.aB).2+1):=AY (key:=λx:bC=>x.id) (x:={a with ay:=b.ay+1}) hf;unfold fF aY.more;dsimp only;rw[e9]
def Jz{m:Nat->Option Int}{k:Nat}{v:Int}{n:Nat}(h:m k=none):(wE (wE m k (some v)) k none,n+1-1)=(m,n):=by
 refine Prod.ext ?_ rfl
 funext j
 dsimp only[wE];by_cases e:j=k
 ·subst e;rw[ai rfl,h]
 ·rw[ag e,ag e]
def Vi[i:Lc (cO p) L (b,hs) f](hf:b.find a.id=none)(ou:b.aB.length<32)(ha:AG {a with ay:=b.ay+1})(hl:hs.length<900000)
 (h:∀ft,Ext (fF b) hs (fF (b.more a)) ft 3->T W (f (b.more a,ft)) (K (.i 0))):T W L (mq (ah p) (aK a) K):=by
 refine LK (p:=p) λla lk ti tn vs bx R hg hc pG=>?_;have uX:=hg.ay;have many:=hg.many;have oC:(IC b.aB).1 a.id=none:=by show ya _ _=_;rw[qA (key:=λx:bC=>x.id) hf];rfl
 have OF:vs.reverse.length<900000:=by rw[jb,hc.len];omega
 unfold mq;apply ws;intros;refine NG (l:=la) ?_;apply ws;refine gL (by show decide (((b.aB.length:Nat):Int)>=32)=false;simp;omega) ?_;apply ws;refine CU (t:=ti) (x:=(fF b).po) ?_;rw[show(fF b).po.1 a.id=none from oC];simp only[eQ,gw];apply ws;refine Pk (p:=p) (q:=gp la lk ti tn vs (fF b)) (by show vs.reverse.length<_;omega) (by show 0<=b.ay/\b.ay<_;omega) λr3=>?_;apply ws;refine NG (l:=la) ?_;apply ws;refine Pj (t:=ti) (x:=(fF b).po) (show b.aB.length<=1000 by omega) oC ?_;apply ws;refine vP (p:=p) (by show(vs.reverse++[_]).length<_;simp at OF⊢;omega) rfl rfl ?_;apply ws;refine Uu (l:=la) (x:={a with ay:=b.ay+1}) (show b.aB.length<_ by omega) (by show((vs.reverse++[_])++[_]).length<_;simp at OF⊢;omega) λr4 r5=>?_;apply ws;rename_i r1 r2;refine eL (eL (eL (eL (eL ?_))));have Gu:=ZJ (a:=a) hf;have II:∀oe,(∀x∈bx,x∈oe)->(r1,[.p (some (ad p 0))])∈oe->(r2,aK {a with ay:=b.ay+1})∈oe->(r3,[.p (some (ad p 0))])∈oe->(r4,[.p (some (ad la 0))])∈oe->(r5,[.i (b.aB.length:Int)])∈oe->
                                                                                                                                                                                      jV p la lk oe (Bc r4 r5::Rw r1 r2::As r3::vs) ({fF b with ay:=b.ay+1,po:=(wE (fF b).po.1 a.id (some (b.aB.length:Int)),(fF b).po.2+1)}::{fF b with ay:=b.ay+1}::fF b::hs) (fF (b.more a)):=by
  intro oe Ak m1 m2 m3 m4 m5;refine⟨?_,?_,?_,hc.mono Ak⟩
  ·have:=CV.Xn (p:=p) (la:=la) (lk:=lk) (c:=fF (b.more a)) m4 m5 (by show b.aB.length<=(b.aB++[_]).length;simp);have ee:{fF (b.more a) with aB:=(fF (b.more a)).aB.take b.aB.length}={fF b with ay:=b.ay+1,po:=(wE (fF b).po.1 a.id (some (b.aB.length:Int)),(fF b).po.2+1)}:=by
    rw[Gu];dsimp only;rw[Cc];rfl
   rw[ee] at this;exact this
  ·have:=CV.open_ (p:=p) (la:=la) (lk:=lk) (c:={fF b with ay:=b.ay+1,po:=(wE (fF b).po.1 a.id (some (b.aB.length:Int)),(fF b).po.2+1)}) (x:={a with ay:=b.ay+1}) m1 m2 (show b.aB.length+1<=1000 by omega) (by show(wE _ _ _ _).isSome=true;unfold wE;rw[ai rfl];rfl) (Jz (show(fF b).po.1 a.id=none from oC));exact this
  ·exact CV.next (c:={fF b with ay:=b.ay+1}) m3 (by show aa.wrap (b.ay+1-1)=b.ay;rw[aW (by omega)];omega)
 have fin:=λoe c1=>pG [] (b.more a) _ (Bc r4 r5::Rw r1 r2::As r3::vs) oe _ (hg.more hf ou ha) c1 (h _ ⟨[{fF b with ay:=b.ay+1,po:=(wE (fF b).po.1 a.id (some (b.aB.length:Int)),(fF b).po.2+1)},{fF b with ay:=b.ay+1},fF b],rfl,rfl,aG _⟩);rw[Gu] at fin;simp only[gp,xC] at fin;exact fin _ (Gu▸II _ (λx hx=>by simp[hx]) (by repeat (first|exact dH.head _|apply dH.tail)) (by repeat (first|exact dH.head _|apply dH.tail)) (by repeat (first|exact dH.head _|apply dH.tail)) (by repeat (first|exact dH.head _|apply dH.tail)) (by repeat (first|exact dH.head _|apply dH.tail)))
end
section
variable {W:World} {L R:LH} {K:VK} {X:WK} {p:Nat} {b:aY} {hs:List C} {f:aY×List C->LH} {id:Nat} {k:bW} {asked t:cE} {fate:Int}
instance{x1 x2 x3 x4:Value}{x y:Int}{n:Nat}:Wr [x1,x2,x3,x4] 0 ([.i x,.i y]++(nm n++[])) (gA ⟨x,y,n⟩):=⟨by simp[over,gA,nm],by simp[nm],λv h=>qe ⟨x,y,n⟩ v (by simpa [gA] using h)⟩
def T.M'{la lk ti tn:Nat}{vs:LV}{st:List nN}{e e':List Item}{x y:Int}(he:e.Perm e')(h:T W (gM p ⟨la,lk,ti,tn,vs,st,e',x,y⟩::R) X):T W (gM p ⟨la,lk,ti,tn,vs,st,e,x,y⟩::R) X:=T.HJ (q:=⟨la,lk,ti,tn,vs,st,e,x,y⟩) he h
def M8(k:bW):Item:=⟨k.move.jj+k.move.cu,k.move.ay,k.move.id⟩
def Tv(hk:KG k)(h:T W L (K (.tuple ⟨[.agg ⟨gA (M8 k)⟩,.b (fR k).isSome]⟩))):T W L (ur (bG k) K):=by
 have h1:=hk.cu;have h2:=hk.jj;unfold ur;apply ws;intros;rw[aW (by omega)];have hd:(fR k).isSome=decide (k.fate=1/\0<k.move.cu):=by
  unfold fR;split
  ·rename_i hc;simp[hc]
  ·rename_i hc;simp[hc]
 rw[hd] at h;apply dh<;>intro g
 ·have g:k.fate=1:=by simpa using g
  apply ws;refine T.fin (by exact T.dp h) ?_
  congr 3
  simp[g]
 ·have g: ¬k.fate=1:=by simpa using g
  apply ws;refine T.fin (by exact T.dp h) ?_
  congr 3
  simp[g]
def fk.mD(hg:fk b)(hf:b.named t.id=none)(many:b.ax.length<96)(hk:KG ⟨asked,{t with ay:=b.ay+1,jj:=b.clock},fate⟩):fk (b.mD asked t fate):=by
 have uX:=hg.ay;refine⟨hg.ids,?_,hg.ou,by show(b.ax++[_]).length<=96;simp;omega,hg.Rg,?_,?_,?_,hg.clock,by show b.ay+1=_+(((b.ax++[_]).length:Nat):Int);simp;show _=(b.aB.length:Int)+_;omega⟩
 ·show((b.ax++[_]).map _).Nodup;rw[cR,List.nodup_append];refine⟨hg.names,by simp,?_⟩;intro x hx y hy;simp at hy;subst hy;obtain⟨z,hz,rfl⟩:=cw.1 hx;have:=mW.1 hf z hz;simpa using this
 ·intro x hx;rcases dF.1 hx with hx|hx
  ·exact hg.Q3 x hx
  ·simp at hx;subst hx;exact hk
 ·show(b.ax++[_]).Pairwise _;rw[List.pairwise_append];refine⟨hg.rising,by simp,λx hx y hy=>?_⟩;simp at hy;subst hy;have:=(hg.dG x hx).2;show _<b.ay+1;omega
 ·intro x hx;rcases dF.1 hx with hx|hx
  ·have:=hg.dG x hx;show _/\_<=b.ay+1;omega
  ·simp at hx;subst hx;show 1<=b.ay+1/\b.ay+1<=b.ay+1;omega
abbrev tg(b:aY)(asked t:cE)(fate:Int):bW:=⟨asked,{t with ay:=b.ay+1,jj:=b.clock},fate⟩
def ZN(hf:b.named t.id=none):fF (b.mD asked t fate)={fF b with ay:=b.ay+1,ax:=b.ax++[tg b asked t fate],ib:=(wE (fF b).ib.1 t.id (some (b.ax.length:Int)),(fF b).ib.2+1),dG:=(fF b).dG++[(b.ay+1,(b.ax.length:Int))],ends:=(fF b).ends++(fR (tg b asked t fate)).toList}:=by
 have e9:FY (b.ax++[tg b asked t fate])=(wE (FY b.ax).1 t.id (some (b.ax.length:Int)),(FY b.ax).2+1):=AY (key:=λx:bW=>x.move.id) (x:=tg b asked t fate) hf;unfold fF aY.mD;dsimp only;rw[e9,vG,List.filterMap_append,aC]
 congr 1
def N5{waits:Bool}[i:Lc (cO p) L (b,hs) f](hf:b.named t.id=none)(many:b.ax.length<96)(hk:KG (tg b asked t fate))(hw:fate=if waits then 1 else 0)(hl:hs.length<900000)
 (h:∀ft,Ext (fF b) hs (fF (b.mD asked t fate)) ft 4->T W (f (b.mD asked t fate,ft)) (K (.i 0))):T W L (im (ah p) (aL asked) (aL t) waits K):=by
 refine LK (p:=p) λla lk ti tn vs bx R hg hc pG=>?_;have uX:=hg.ay;have ou:=hg.ou;have oC:(FY b.ax).1 t.id=none:=by show ya _ _=_;rw[qA (key:=λx:bW=>x.move.id) hf];rfl
 have OF:vs.reverse.length<900000:=by rw[jb,hc.len];omega
 unfold im;apply ws;intros;refine Nw (l:=lk) ?_;apply ws;refine gL (by show decide (((b.ax.length:Nat):Int)>=96)=false;simp;omega) ?_;apply ws;refine CU (t:=tn) (x:=(fF b).ib) ?_;rw[show(fF b).ib.1 t.id=none from oC];simp only[eQ,gw];apply ws;intros;rename_i r1 r2 r3 r4;have main:T W (Sep.pt r4 (bG ⟨asked,t,fate⟩)::Sep.pt r3 (aL t)::Sep.pt r2 (aL asked)::Sep.pt r1 [.p (some (ad p 0))]::gM p (gp la lk ti tn vs (fF b))::sj aK 14 la (p,(fF b).aB)::sj bG 33 lk (p,(fF b).ax)::oV ti (fF b).po::oV tn (fF b).ib::vO bx::R) (im.j1 K r1 r4 r3):=by
  unfold im.j1;apply ws;refine Pk (p:=p) (q:=gp la lk ti tn vs (fF b)) (by show vs.reverse.length<_;omega) (by show 0<=b.ay/\b.ay<_;omega) λr5=>?_;apply ws;refine Ul (l:=lk) (x:=tg b asked t fate) (show b.ax.length<_ by omega) (by show(vs.reverse++[_]).length<_;simp at OF⊢;omega) λr6 r7=>?_;apply ws;refine Pj (t:=tn) (x:=(fF b).ib) (show b.ax.length<=1000 by omega) oC ?_;apply ws;refine O4 (p:=p) hg.yo (by show(fo 0 b.ax).length<_;rw[lY];omega) (λx hx=>by
   obtain⟨k,hk,e⟩:=Av hx
   have:=(hg.dG k hk).2
   show x.1<b.ay+1
   omega) ?_
  apply ws;refine vP (p:=p) (by show((vs.reverse++[_])++[_]).length<_;simp at OF⊢;omega) rfl rfl ?_;apply ws;refine Tv (k:=tg b asked t fate) hk ?_;apply ws;intros;rename_i r8;have Gu:=ZN (asked:=asked) (fate:=fate) hf;have II:∀oe,(∀x∈bx,x∈oe)->(r1,[.p (some (ad p 0))])∈oe->(r3,aL t)∈oe->(r4,bG (tg b asked t fate))∈oe->(r5,[.p (some (ad p 0))])∈oe->(r6,[.p (some (ad lk 0))])∈oe->(r7,[.i (b.ax.length:Int)])∈oe->
   jV p la lk oe (DV r1 r3 r4::vo r6 r7::As r5::vs) ({fF b with ay:=b.ay+1,ax:=b.ax++[tg b asked t fate]}::{fF b with ay:=b.ay+1}::fF b::hs)
    {fF b with ay:=b.ay+1,ax:=b.ax++[tg b asked t fate],ib:=(wE (fF b).ib.1 t.id (some (b.ax.length:Int)),(fF b).ib.2+1),dG:=(fF b).dG++[(b.ay+1,(b.ax.length:Int))]}:=by
   intro oe Ak m1 m2 m3 m4 m5 m6;refine⟨?_,?_,?_,hc.mono Ak⟩
   ·exact CV.Oz (p:=p) (la:=la) (lk:=lk) (c:={fF b with ay:=b.ay+1,ax:=b.ax++[tg b asked t fate],ib:=(wE (fF b).ib.1 t.id (some (b.ax.length:Int)),(fF b).ib.2+1),dG:=(fF b).dG++[(b.ay+1,(b.ax.length:Int))]}) (t:=t) (k:=tg b asked t fate) (l0:=(fF b).dG) m1 m2 m3 (show b.ax.length+1<=1000 by omega) (by show(wE _ _ _ _).isSome=true;unfold wE;rw[ai rfl];rfl)
     (by have:=(hg.mD hf many hk).yo
         have e:fo 0 (b.mD asked t fate).ax=(fF b).dG++[(b.ay+1,(b.ax.length:Int))]:=congrArg C.dG Gu
         rw[e] at this;exact this)
     (by show(fo 0 b.ax++[_]).length<_;rw[au,lY];simp;omega) rfl (Jz (show(fF b).ib.1 t.id=none from oC))
   ·have:=CV.Xm (p:=p) (la:=la) (lk:=lk) (c:={fF b with ay:=b.ay+1,ax:=b.ax++[tg b asked t fate]}) m5 m6 (by show b.ax.length<=(b.ax++[_]).length;simp);have ee:({({fF b with ay:=b.ay+1,ax:=b.ax++[tg b asked t fate]}:C) with ax:=(b.ax++[tg b asked t fate]).take b.ax.length}:C)={fF b with ay:=b.ay+1}:=by rw[Cc];rfl
    rw[ee] at this;exact this
   ·exact CV.next (c:={fF b with ay:=b.ay+1}) m4 (by show aa.wrap (b.ay+1-1)=b.ay;rw[aW (by omega)];omega)
  cases hd:fR (tg b asked t fate) with
  |none=>
   simp only[eQ];apply ws;refine eL (eL (eL (eL (eL (eL (eL (eL ?_)))))));rw[hd] at Gu;simp only[Option.toList_none,bI] at Gu;have fin:=λoe c1=>pG [] (b.mD asked t fate) _ (DV r1 r3 r4::vo r6 r7::As r5::vs) oe _ (hg.mD hf many hk) c1 (h _ ⟨[{fF b with ay:=b.ay+1,ax:=b.ax++[tg b asked t fate]},{fF b with ay:=b.ay+1},fF b],rfl,rfl,by simp⟩);rw[Gu] at fin;simp only[gp,xC] at fin;exact fin _ (II _ (λx hx=>by simp[hx]) (by repeat (first|exact dH.head _|apply dH.tail)) (by repeat (first|exact dH.head _|apply dH.tail)) (by repeat (first|exact dH.head _|apply dH.tail)) (by repeat (first|exact dH.head _|apply dH.tail)) (by repeat (first|exact dH.head _|apply dH.tail)) (by repeat (first|exact dH.head _|apply dH.tail)))
  |some x=>
   have ex:M8 (tg b asked t fate)=x:=by
    unfold fR at hd;split at hd
    ·cases hd;rfl
    ·cases hd
   simp only[dy];apply ws;simp only[gN,aC];rw[ex];refine IY (p:=p) (e':=(fF b).ends++[x]) (by have:=A6 b;show(b.ax.filterMap fR).length<_;omega) (bU.refl _) ?_;apply ws;refine vP (p:=p) (by show(((vs.reverse++[_])++[_])++[_]).length<_;simp at OF⊢;omega) rfl rfl ?_;apply ws;refine eL (eL (eL (eL (eL (eL (eL (eL ?_)))))));rw[hd] at Gu;simp only[Option.toList_some] at Gu;have hsx:=(rm hd).1;have S8:∀oe,(∀x∈bx,x∈oe)->(r1,[.p (some (ad p 0))])∈oe->(r3,aL t)∈oe->(r4,bG (tg b asked t fate))∈oe->(r5,[.p (some (ad p 0))])∈oe->(r6,[.p (some (ad lk 0))])∈oe->(r7,[.i (b.ax.length:Int)])∈oe->(r8,gA x)∈oe->
                                              jV p la lk oe (L9 r1 r8::DV r1 r3 r4::vo r6 r7::As r5::vs) ({fF b with ay:=b.ay+1,ax:=b.ax++[tg b asked t fate],ib:=(wE (fF b).ib.1 t.id (some (b.ax.length:Int)),(fF b).ib.2+1),dG:=(fF b).dG++[(b.ay+1,(b.ax.length:Int))]}::{fF b with ay:=b.ay+1,ax:=b.ax++[tg b asked t fate]}::{fF b with ay:=b.ay+1}::fF b::hs)
                                               (fF (b.mD asked t fate)):=by
    intro oe Ak m1 m2 m3 m4 m5 m6 m7;refine⟨?_,II oe Ak m1 m2 m3 m4 m5 m6⟩;rw[Gu];exact CV.Oy (p:=p) (la:=la) (lk:=lk) (c:={fF b with ay:=b.ay+1,ax:=b.ax++[tg b asked t fate],ib:=(wE (fF b).ib.1 t.id (some (b.ax.length:Int)),(fF b).ib.2+1),dG:=(fF b).dG++[(b.ay+1,(b.ax.length:Int))],ends:=(fF b).ends++[x]}) (e':=(fF b).ends) m1 m7
     (by have:=A6 b;show(b.ax.filterMap fR++[x]).length<_;simp;omega) (bu (l₁:=[x])) (λy hy=>by
      obtain⟨k,hk,e⟩:=List.mem_filterMap.1 hy
      have h1:=(rm e).1
      have h2:=(hg.dG k hk).2
      rw[hsx]
      show y.ay≠b.ay+1
      omega)
   have fin:=λoe c1=>pG [] (b.mD asked t fate) _ (L9 r1 r8::DV r1 r3 r4::vo r6 r7::As r5::vs) oe _ (hg.mD hf many hk) c1 (h _ ⟨[{fF b with ay:=b.ay+1,ax:=b.ax++[tg b asked t fate],ib:=(wE (fF b).ib.1 t.id (some (b.ax.length:Int)),(fF b).ib.2+1),dG:=(fF b).dG++[(b.ay+1,(b.ax.length:Int))]},{fF b with ay:=b.ay+1,ax:=b.ax++[tg b asked t fate]},{fF b with ay:=b.ay+1},fF b],rfl,rfl,by simp⟩);rw[Gu] at fin S8;simp only[gp,xC] at fin;exact fin _ (S8 _ (λx hx=>by simp[hx]) (by repeat (first|exact dH.head _|apply dH.tail)) (by repeat (first|exact dH.head _|apply dH.tail)) (by repeat (first|exact dH.head _|apply dH.tail)) (by repeat (first|exact dH.head _|apply dH.tail)) (by repeat (first|exact dH.head _|apply dH.tail)) (by repeat (first|exact dH.head _|apply dH.tail)) (by repeat (first|exact dH.head _|apply dH.tail)))
 apply dh<;>intro g
 ·rw[g] at hw;apply ws;rw[ai rfl] at hw;rw[hw] at main;exact main
 ·rw[g,ag (by decide)] at hw;rw[hw] at main;exact main
def Tj(hg:fk b){n:Nat}(hn:n<b.ax.length)(h1:b.ax[n].fate=1)(Dt:fate=2\/fate=3\/fate=4):fF (b.fate b.ax[n].move.id fate)={fF b with ax:=b.ax.set n {b.ax[n] with fate:=fate},ends:=(b.ax.set n {b.ax[n] with fate:=fate}).filterMap fR}:=by
 have e:(b.fate b.ax[n].move.id fate).ax=b.ax.set n {b.ax[n] with fate:=fate}:=by
  show(b.ax.map λk=>if k.move.id=b.ax[n].move.id/\k.fate=1 then{k with fate:=fate} else k)=_;have:=map_set (key:=λx:bW=>x.move.id) hg.names hn λk=>if k.fate=1 then{k with fate:=fate} else k
  rw[ai h1] at this;rw[<-this];apply dS;intro k hk;by_cases e1:k.move.id=b.ax[n].move.id<;>by_cases e2:k.fate=1<;>simp[e1,e2]
 have e9:FY (b.ax.set n {b.ax[n] with fate:=fate})=FY b.ax:=OD (key:=λx:bW=>x.move.id) hn rfl;unfold fF;rw[e,e9,Ic (k:={b.ax[n] with fate:=fate}) 0 hn rfl]
 rfl
def fk.acz(hg:fk b){n:Nat}(hn:n<b.ax.length)(h1:b.ax[n].fate=1)(Dt:fate=2\/fate=3\/fate=4):fk (b.fate b.ax[n].move.id fate):=by
 have e:(b.fate b.ax[n].move.id fate).ax=b.ax.set n {b.ax[n] with fate:=fate}:=congrArg C.ax (Tj hg hn h1 Dt);have em:∀{β:Type}(g:bW->β),(∀k:bW,g {k with fate:=fate}=g k)->(b.fate b.ax[n].move.id fate).ax.map g=b.ax.map g:=by
  intro β g hgg;rw[e,List.map_set];refine List.ext_getElem (by simp) λi h1 h2=>?_;rw[List.getElem_set];split
  ·rename_i he;subst he;simp[hgg]
  ·rfl
 have hk:=hg.Q3 _ (bR hn);refine⟨hg.ids,by rw[em (λx=>x.move.id) λ_=>rfl];exact hg.names,hg.ou,by rw[e,iP];exact hg.many,hg.Rg,?_,?_,?_,hg.clock,by rw[e,iP];exact hg.ay⟩
 ·rw[e];intro x hx;rcases eY hx with hx|hx
  ·exact hg.Q3 x hx
  ·subst hx;exact⟨hk.asked,hk.move,hk.Nq,hk.Ol,hk.uR,hk.wa,by show 0<=fate/\fate<=4;omega,hk.cu,hk.jj⟩
 ·have h2:=hg.rising;have:((b.fate b.ax[n].move.id fate).ax.map λx=>x.move.ay).Pairwise (·<·):=by
   rw[em (λx=>x.move.ay) λ_=>rfl];exact List.pairwise_map.2 h2
  exact List.pairwise_map.1 this
 ·rw[e];intro x hx;rcases eY hx with hx|hx
  ·exact hg.dG x hx
  ·subst hx;exact hg.dG b.ax[n] (bR hn)
def Zi[i:Lc (cO p) L (b,hs) f](hn:b.named id=some k)(h1:k.fate=1)(Dt:fate=2\/fate=3\/fate=4)(hl:hs.length<900000)
 (h:∀ft,Ext (fF b) hs (fF (b.fate id fate)) ft 2->T W (f (b.fate id fate,ft)) (K (.i 0))):T W L (da (ah p) (nm id) fate K):=by
 refine LK (p:=p) λla lk ti tn vs bx R hg hc pG=>?_;have ou:=hg.ou;have many:=hg.many;obtain⟨n,hi⟩:∃n,(b.ax.findIdx? λx=>x.move.id=id)=some n:=by
  cases hi:(b.ax.findIdx? λx=>x.move.id=id) with
  |none=>rw[show b.named id=none from AZ (key:=λx:bW=>x.move.id) hi] at hn;cases hn
  |some n=>exact⟨n,rfl⟩
 obtain⟨Z7,hk,hff⟩:=wh (key:=λx:bW=>x.move.id) hi;have e2:b.named id=some b.ax[n]:=hff;rw[hn] at e2;have e3:=bE.inj e2;subst e3;subst hk;have e1:(FY b.ax).1 b.ax[n].move.id=some (n:Int):=by show ya _ _=_;rw[hi];rfl
 have Gu:=Tj hg Z7 h1 Dt;have hkg:=hg.Q3 _ (bR Z7);have OF:vs.reverse.length<900000:=by rw[jb,hc.len];omega
 have KD:fR {b.ax[n] with fate:=fate}=none:=by unfold fR;rw[ag];show ¬(fate=1/\_);omega
 unfold da;apply ws;intros;refine Jf (b:=b) hg.many ?_;rw[hn];simp only[dy,dx];apply ws;intros;rename_i r1 r2 r3;unfold da.j1;refine gL (by simpa using h1) ?_;unfold da.j2;refine gL (by simp;omega) ?_;refine gL (by simp;omega) ?_;apply ws;refine Tv (k:=b.ax[n]) hkg ?_;apply ws;intros;rename_i r4;have main:∀(q:Core)(yK:LV)(gX:List C)(c2:C),q=gp la lk ti tn yK c2->c2={fF b with ends:=q.ends}->q.ends.Perm ((b.ax.set n {b.ax[n] with fate:=fate}).filterMap fR)->yK.length<=vs.length+1->
                                                          (∀oe,(∀x∈bx,x∈oe)->(r1,[.p (some (ad p 0))])∈oe->(r4,gA (M8 b.ax[n]))∈oe->jV p la lk oe yK gX {fF b with ends:=(b.ax.set n {b.ax[n] with fate:=fate}).filterMap fR})->
                                                          Ext (fF b) hs (fF (b.fate b.ax[n].move.id fate)) ({fF b with ends:=(b.ax.set n {b.ax[n] with fate:=fate}).filterMap fR}::gX) 2->
                                                          T W (Sep.pt r4 (gA (M8 b.ax[n]))::Sep.pt r3 (bG b.ax[n])::Sep.pt r2 (nm b.ax[n].move.id)::Sep.pt r1 [.p (some (ad p 0))]::gM p q::sj aK 14 la (p,b.aB)::sj bG 33 lk (p,b.ax)::oV ti (IC b.aB)::oV tn (FY b.ax)::vO bx::R) (da.j4 K r1 r2 r3 fate):=by
  rintro q yK gX c2 rfl OQ hpm adU II aee;unfold da.j4;have Yg:(gp la lk ti tn yK c2).vs.length<1000000:=by show yK.reverse.length<_;rw[jb];rw[jb] at OF;omega
  apply ws;refine CU (t:=tn) (x:=FY b.ax) ?_;rw[e1];simp only[dy,dx];apply ws;refine aa0 (l:=lk) (y:=b.ax[n]) (x:={b.ax[n] with fate:=fate}) (aj Z7) (by omega) Yg λr5 r6 r7=>?_;apply ws;refine eL (eL (eL (eL (eL (eL (eL ?_))))));refine T.M' (e':=(b.ax.set n {b.ax[n] with fate:=fate}).filterMap fR) hpm ?_;have fin:=λoe(c1:jV p la lk oe (Bb r5 r6 r7::yK) ({fF b with ends:=(b.ax.set n {b.ax[n] with fate:=fate}).filterMap fR}::gX) (fF (b.fate b.ax[n].move.id fate)))=>pG [] (b.fate b.ax[n].move.id fate) _ (Bb r5 r6 r7::yK) oe _ (hg.acz Z7 h1 Dt) c1 (h _ aee);have S8:∀oe,(∀x∈bx,x∈oe)->(r1,[.p (some (ad p 0))])∈oe->(r4,gA (M8 b.ax[n]))∈oe->(r5,bG b.ax[n])∈oe->(r6,[.p (some (ad lk 0))])∈oe->(r7,[.i (n:Int)])∈oe->
                                                jV p la lk oe (Bb r5 r6 r7::yK) ({fF b with ends:=(b.ax.set n {b.ax[n] with fate:=fate}).filterMap fR}::gX) (fF (b.fate b.ax[n].move.id fate)):=by
   intro oe Ak m1 m2 m3 m4 m5;refine⟨?_,II oe Ak m1 m2⟩;have:=CV.Va (p:=p) (la:=la) (lk:=lk) (c:=fF (b.fate b.ax[n].move.id fate)) m3 m4 m5 (by rw[Gu];simpa using Z7);have ee:{fF (b.fate b.ax[n].move.id fate) with ax:=(fF (b.fate b.ax[n].move.id fate)).ax.set n b.ax[n]}={fF b with ends:=(b.ax.set n {b.ax[n] with fate:=fate}).filterMap fR}:=by
    rw[Gu];simp only[jk,List.set_getElem_self]
    rfl
   rw[ee] at this;exact this
  rw[Gu] at fin S8;simp only[gp,xC] at fin;rw[OQ];exact fin _ (S8 _ (λx hx=>by simp[hx]) (by repeat (first|exact dH.head _|apply dH.tail)) (by repeat (first|exact dH.head _|apply dH.tail)) (by repeat (first|exact dH.head _|apply dH.tail)) (by repeat (first|exact dH.head _|apply dH.tail)) (by repeat (first|exact dH.head _|apply dH.tail)))
 cases hd:fR b.ax[n] with
 |none=>
  simp only[eQ];apply ws;unfold da.j3;refine vF ?_;have hes:=Gx Z7 KD hd;have S9:({fF b with ends:=(b.ax.set n {b.ax[n] with fate:=fate}).filterMap fR}:C)=fF b:=by rw[hes];rfl
  refine main (gp la lk ti tn vs (fF b)) vs hs (fF b) rfl rfl (by rw[hes];exact bU.refl _) (by omega) (λoe Ak _ _=>by rw[S9];exact hc.mono Ak) (by rw[S9];exact⟨[fF b],rfl,rfl,by simp⟩)
 |some x=>
  have ex:M8 b.ax[n]=x:=by
   unfold fR at hd;split at hd
   ·cases hd;rfl
   ·cases hd
  obtain⟨Wi,E2⟩:=hg.Tm Z7 KD hd;simp only[dy];apply ws;simp only[gN,aC];have hsx:b.ax[n].move.ay=x.ay:=(rm hd).1.symm;refine La (p:=p) (q:=gp la lk ti tn vs (fF b)) (by have:=A6 b;show(b.ax.filterMap fR).length<_;omega) (λy e' hy hpy=>?_) (λFZ=>?_)
  ·apply ws;unfold da.j3;refine vE ?_;apply ws;refine vP (p:=p) (by show vs.reverse.length<_;omega) rfl rfl ?_;apply ws;have hpe:e'.Perm ((b.ax.set n {b.ax[n] with fate:=fate}).filterMap fR):=GH Wi hpy (by rw[hy,<-ex]) E2;have:=main ⟨la,lk,ti,tn,vs.reverse++[YX r1 r4],(fF b).dG,e',(fF b).clock,(fF b).ay⟩ (YX r1 r4::vs) (fF b::hs) {fF b with ends:=e'} (by simp[gp]) rfl hpe (by simp) (λoe Ak m1 m2=>⟨?_,hc.mono Ak⟩) ⟨[{fF b with ends:=(b.ax.set n {b.ax[n] with fate:=fate}).filterMap fR},fF b],rfl,rfl,by simp⟩
   ·exact this
   ·rw[ex] at m2;exact CV.end_ (p:=p) (la:=la) (lk:=lk) (c:={fF b with ends:=(b.ax.set n {b.ax[n] with fate:=fate}).filterMap fR}) (e':=(fF b).ends) m1 m2 (by have h3:=List.length_filterMap_le fR (b.ax.set n {b.ax[n] with fate:=fate});rw[iP] at h3;show List.length (List.filterMap _ _)<_;omega) (Wi.symm.trans (bu (l₁:=[x])))
  ·refine aT ?_ (FZ x (Wi.mem_iff.1 (by simp)));rw[<-ex]
end
def jL(d c:bC):LV:=aK d++aK c
def Bx(d c:bC):∀v∈jL d c,v.oneCell'=true:=oL (iv _) (iv _)
instance{d c:bC}:Ln (jL d c) 28:=⟨rfl⟩
instance{d c:bC}:Gt (jL d c) 12 (.i d.ak):=⟨rfl⟩
instance{d c:bC}:Gt (jL d c) 26 (.i c.ak):=⟨rfl⟩
section
variable {d c e:bC} {i:Int} {x1 x2 x3 x4 x5 x6 x7 x8 x9 DO DN DM DL HT L5 L4 XH XG YT YR YQ YP YO YN YM YL YK YJ:Value}
instance:Sub (jL d c) 0 28 (jL d c):=⟨rfl,λj v h=>by rw[aC];exact h⟩
instance:Sub (jL d c) 0 14 (aK d):=⟨rfl,λj v h=>by rw[aC];unfold jL;rw[dB (aw.1 h).1];exact h⟩
instance:Sub (jL d c) 14 14 (aK c):=⟨rfl,λj v h=>by
 have hl:(aK d).length=14:=rfl
 unfold jL
 rw[iz (by omega),hl,show 14+j-14=j by omega];exact h⟩
instance:Wr (jL d c) 0 (aK e) (jL e c):=⟨rfl,by show 14<=28;decide,iv e⟩
instance:Wr (jL d c) 14 (aK e) (jL d e):=⟨rfl,by show 28<=28;decide,iv e⟩
instance:Wr (jL d c) 12 [.i i] (jL {d with ak:=i} c):=⟨rfl,by show 13<=28;decide,λv h=>by simp at h;subst h;rfl⟩
instance:Wr (jL d c) 26 [.i i] (jL d {c with ak:=i}):=⟨rfl,by show 27<=28;decide,λv h=>by simp at h;subst h;rfl⟩
instance:Wr [x1,x2,x3,x4,x5,x6,x7,x8,x9,DO,DN,DM,DL,HT,L5,L4,XH,XG,YT,YR,YQ,YP,YO,YN,YM,YL,YK,YJ] 0 (jL d c) (jL d c):=⟨rfl,aG _,Bx d c⟩
instance:Wr [x1,x2,x3,x4,x5,x6,x7,x8,x9,DO,DN,DM,DL,HT,L5,L4,XH,XG,YT,YR,YQ,YP,YO,YN,YM,YL,YK,YJ] 0 (aK d++(aK c++[])) (jL d c):=⟨rfl,aG _,by rw[bI];exact Bx d c⟩
instance:Wr [x1,x2,x3,x4,x5,x6,x7,x8,x9,DO,DN,DM,DL,HT,L5,L4,XH,XG,YT,YR,YQ,YP,YO,YN,YM,YL,YK,YJ] 0 [.u 0,.u 0,.u 0,.u 0,.u 0,.u 0,.u 0,.u 0,.u 0,.u 0,.i 0,.i 0,.i 0,.i 0,.u 0,.u 0,.u 0,.u 0,.u 0,.u 0,.u 0,.u 0,.u 0,.u 0,.i 0,.i 0,.i 0,.i 0] (jL zA zA):=⟨rfl,aG _,Bx zA zA⟩
end
def tM(d c:Option bC)(t:cE):Int:=match d with
 |none=>19
 |some d=>match c with
  |none=>20
  |some c=>if d.aZ≠c.aZ then 21 else if d.aZ≠t.aZ then 22 else if 8<=d.ak then 30 else if 8<=c.ak then 31 else 0
def Wy{f:Int}(h0:0<=f)(h1:f<16):(db .i64 .and f 8!=0)=decide (8<=f):=by
 rw[bV];simp only[fy,ne_eq,decide_eq_true_eq];rw[TQ h0 (by omega)];unfold has;omega
section
variable {W:World} {L R:LH} {K:VK} {X:WK} {p:Nat} {b:aY} {hs:List C} {f:aY×List C->LH} {t:cE} {d c:bC} {n:Nat}
def V1[i:Lc (cO p) L (b,hs) f](h0:∀d c,tM (b.find t.bp) (b.find t.aP) t≠0->T W L (K (.tuple ⟨[.agg ⟨jL d c⟩,.i (tM (b.find t.bp) (b.find t.aP) t)]⟩)))
 (h:∀d c,b.find t.bp=some d->b.find t.aP=some c->tM (b.find t.bp) (b.find t.aP) t=0->T W L (K (.tuple ⟨[.agg ⟨jL d c⟩,.i 0]⟩))):T W L (yT (ah p) (aL t) K):=by
 refine qm (p:=p) λhg=>?_;unfold yT
 repeat' first|apply ws;intros|apply wb|refine wB ?_
 cases hd:b.find t.bp with
 |none=>
  rw[hd] at h0;simp only[eQ,gw];have:=h0 zA zA (by show(19:Int)≠0;decide);apply ws;exact T.dp this
 |some d=>
  cases hc:b.find t.aP with
  |none=>
   rw[hd,hc] at h0;simp only[eQ,gw,dy,dx];have:=h0 zA zA (by show(20:Int)≠0;decide);apply ws;exact T.dp this
  |some c=>
   rw[hd,hc] at h0 h;have fd:=(hg.Rg d (mM hd)).ak;have fc:=(hg.Rg c (mM hc)).ak;simp only[dy,dx];apply ws;apply dh<;>intro g1
   ·have g1:d.aZ≠c.aZ:=by simpa using g1
    have e:tM (some d) (some c) t=21:=ai g1;rw[e] at h0;have:=h0 zA zA (by decide);apply ws;exact T.dp this
   have g1: ¬d.aZ≠c.aZ:=by simpa using g1
   apply ws;apply dh<;>intro g2
   ·have g2:d.aZ≠t.aZ:=by simpa using g2
    have e:tM (some d) (some c) t=22:=by unfold tM;dsimp only;rw[ag g1,ai g2]
    rw[e] at h0;have:=h0 zA zA (by decide);apply ws;exact T.dp this
   have g2: ¬d.aZ≠t.aZ:=by simpa using g2
   apply ws;rw[Wy fd.1 fd.2];apply fV<;>intro g3
   ·have e:tM (some d) (some c) t=30:=by unfold tM;dsimp only;rw[ag g1,ag g2,ai (g3)]
    rw[e] at h0;have:=h0 zA zA (by decide);apply ws;exact T.dp this
   apply ws;rw[Wy fc.1 fc.2];apply fV<;>intro g4
   ·have e:tM (some d) (some c) t=31:=by unfold tM;dsimp only;rw[ag g1,ag g2,ag g3,ai (g4)]
    rw[e] at h0;have:=h0 zA zA (by decide);apply ws;exact T.dp this
   have:=h d c rfl rfl (by unfold tM;dsimp only;rw[ag g1,ag g2,ag g3,ag g4]);apply ws;exact T.dp this
def acr{f:Int}(h0:0<=f)(h1:f<256):(db .i64 .and f 16!=0)=decide (has f 16):=by
 rw[bV];simp only[fy,ne_eq,decide_eq_true_eq];rw[aaO h0 h1,bh]
def acq{f:Int}(h0:0<=f)(h1:f<256):(db .i64 .and f 32!=0)=decide (has f 32):=by
 rw[bV];simp only[fy,ne_eq,decide_eq_true_eq];rw[aaN h0 h1,bh]
def Yu{f:Int}(h0:0<=f)(h1:f<256):(db .i64 .and f 64!=0)=decide (has f 64):=by
 rw[bV];simp only[fy,ne_eq,decide_eq_true_eq];rw[TR h0 h1,bh]
def Tc{f:Int}(h0:0<=f)(h1:f<256):(db .i64 .and f 128!=0)=decide (has f 128):=by
 rw[bV];simp only[fy,ne_eq,decide_eq_true_eq];rw[O9 h0 h1,bh]
def aes{f:Int}(h0:0<=f)(h1:f<256):(db .i64 .and f 4!=0)=decide (has f 4):=by
 rw[bV];simp only[fy,ne_eq,decide_eq_true_eq];rw[Lo h0 h1,bh]
def Qb(G:qF W)(hd:wD d)(hc:wD c)(ht:t.aU<bB)(hf:0<=t.ak/\t.ak<256)(hz:t.aU=0->has t.ak 16\/has t.ak 32)
 (h:T W L (K (.tuple ⟨[.agg ⟨nm (cZ t d c).1⟩,.i (cZ t d c).2]⟩))):T W L (fX (jL d c) (aL t) K):=by
 unfold fX;have j3:∀(r1 r2 r3 r4 n1:Nat),n1<bB->((if has t.ak 32/\(if has t.ak 32 then min n1 (iu c false) else n1)=0 then((0:Nat),(34:Int)) else(if has t.ak 32 then min n1 (iu c false) else n1,0))=cZ t d c)->
  T W (Sep.pt r4 (nm n1)::Sep.pt r3 (nm 0)::Sep.pt r2 (aL t)::Sep.pt r1 (jL d c)::L) (fX.j3 K r2 r4 r1 r3):=by
  intro r1 r2 r3 r4 n1 hn1 he;unfold fX.j3;apply ws;rw[acq hf.1 hf.2];apply fV<;>intro g1
  ·rw[ai g1] at he
   repeat' first|apply ws|apply wb|first|refine Ji G hc ?_|refine YH ?_|refine uT ?_
   apply fV<;>intro g2
   ·rw[ai ⟨g1,g2⟩] at he;rw[<-he] at h;rw[g2];apply ws;exact T.dp h
   ·rw[ag (λhh=>g2 hh.2)] at he;rw[<-he] at h;apply ws;exact T.dp h
  ·rw[ag (λhh=>g1 hh.1),ag g1] at he;rw[<-he] at h;apply ws;exact T.dp h
 have j2:∀(r1 r2 r3 r4:Nat),T W (Sep.pt r4 (nm (if t.aU=0 then bB-1 else t.aU))::Sep.pt r3 (nm 0)::Sep.pt r2 (aL t)::Sep.pt r1 (jL d c)::L) (fX.j2 K r2 r4 r1 r3):=by
  intro r1 r2 r3 r4;have hn0:(if t.aU=0 then bB-1 else t.aU)<bB:=by unfold bB at *;split<;>omega
  unfold fX.j2;apply ws;rw[acr hf.1 hf.2];apply fV<;>intro g1
  ·repeat' first|apply ws|apply wb|first|refine Ji G hd ?_|refine YH ?_|refine uT ?_
   apply fV<;>intro g2
   ·have he:cZ t d c=(0,33):=by unfold cZ;simp only[g1,g2,if_true,true_and]
    rw[he] at h;rw[g2];apply ws;exact T.dp h
   ·refine j3 _ _ _ _ _ (by have:=E6 (p:=true) hd;omega) ?_;unfold cZ;simp only[g1,g2,if_true,true_and,if_false]
  ·refine j3 _ _ _ _ _ hn0 ?_;unfold cZ;simp only[g1,if_false,false_and]
 have ahx:(has t.ak 16\/has t.ak 32)->t.aU=0->(if t.aU=0 then bB-1 else t.aU)=bB-1:=λ_ h=>ai h
 repeat' first|apply ws;intros|apply wb|refine FN hf ?_
 rename_i r1 r2 r3 r4;apply fV<;>intro g1
 ·repeat' first|apply ws|apply wb|refine uT ?_
  unfold fX.j1;apply fV<;>intro g2
  ·refine NS ⟨yu _,G.VV⟩ ?_;apply ws;have:=j2 r1 r2 r3 r4;rw[ai g2] at this;exact this
  ·have:=j2 r1 r2 r3 r4;rw[ag g2] at this;exact this
 ·unfold fX.j1;refine vF ?_;have:=j2 r1 r2 r3 r4;rw[ag (λhh=>g1 (hz hh))] at this;exact this
end
structure ag1(t:cE):Prop where
 ak:0<=t.ak/\t.ak<=255
 id0:t.id≠0
 idM:t.id≠bB-1
 tog:iY t.ak
 fresh:t.ay=0/\t.jj=0
 cu:0<=t.cu/\t.cu<=1073741824
 waits:0<t.cu->has t.ak 2
 ends:jA t.ak->t.pending≠0/\(0<=t.aZ/\t.aZ<4294967296)/\(0<=t.code/\t.code<65536)
 cm: ¬jA t.ak->t.bp≠t.aP/\t.pending=0/\(t.aU=0->has t.ak 16\/has t.ak 32)/\(1<=t.aZ/\t.aZ<4294967296)/\(1<=t.code/\t.code<65536)
def B4{t:cE}(h:mT t=0):ag1 t:=by
 unfold mT at h;by_cases h1:t.ak<0\/255<t.ak
 ·rw[ai h1] at h;exact aT h (by decide)
 rw[ag h1] at h;by_cases h2:t.id=0
 ·rw[ai h2] at h;exact aT h (by decide)
 rw[ag h2] at h;by_cases h3:t.id=bB-1
 ·rw[ai h3] at h;exact aT h (by decide)
 rw[ag h3] at h;by_cases h4: ¬iY t.ak
 ·rw[ai h4] at h;exact aT h (by decide)
 rw[ag h4] at h;by_cases h5:t.ay≠0\/t.jj≠0
 ·rw[ai h5] at h;exact aT h (by decide)
 rw[ag h5] at h;by_cases h6:t.cu<0\/1073741824<t.cu\/0<t.cu/\ ¬has t.ak 2
 ·rw[ai h6] at h;exact aT h (by decide)
 rw[ag h6] at h;have hw:0<t.cu->has t.ak 2:=λh0=>bh.1 λhh=>h6 (.inr (.inr ⟨h0,hh⟩));by_cases he:jA t.ak
 ·rw[ai he] at h;by_cases g1:t.pending=0
  ·rw[ai g1] at h;exact aT h (by decide)
  rw[ag g1] at h;by_cases g2:t.aZ<0\/4294967296<=t.aZ
  ·rw[ai g2] at h;exact aT h (by decide)
  rw[ag g2] at h;by_cases g3:t.code<0\/65536<=t.code
  ·rw[ai g3] at h;exact aT h (by decide)
  exact⟨by omega,h2,h3,bh.1 h4,by omega,by omega,hw,λ_=>⟨g1,by omega,by omega⟩,λhh=>aT he hh⟩
 ·rw[ag he] at h;by_cases g1:t.bp=0
  ·rw[ai g1] at h;exact aT h (by decide)
  rw[ag g1] at h;by_cases g2:t.aP=0
  ·rw[ai g2] at h;exact aT h (by decide)
  rw[ag g2] at h;by_cases g3:t.bp=t.aP
  ·rw[ai g3] at h;exact aT h (by decide)
  rw[ag g3] at h;by_cases g4:t.pending≠0
  ·rw[ai g4] at h;exact aT h (by decide)
  rw[ag g4] at h;by_cases g5:t.aU=0/\ ¬has t.ak 16/\ ¬has t.ak 32
  ·rw[ai g5] at h;exact aT h (by decide)
  rw[ag g5] at h;by_cases g6:t.aZ<1\/4294967296<=t.aZ
  ·rw[ai g6] at h;exact aT h (by decide)
  rw[ag g6] at h;by_cases g7:t.code<1\/65536<=t.code
  ·rw[ai g7] at h;exact aT h (by decide)
  refine⟨by omega,h2,h3,bh.1 h4,by omega,by omega,hw,λhh=>aT hh he,λ_=>⟨g3,by omega,λh0=>?_,by omega,by omega⟩⟩;by_cases q:has t.ak 16
  ·exact .inl q
  ·by_cases q2:has t.ak 32
   ·exact .inr q2
   ·exact aT ⟨h0,q,q2⟩ g5
section
variable {b:aY} {t:cE} {d c:bC} {n:Nat} {q:Bool}
def wq(hg:fk b){id:Nat}(hd:b.find id=some d):AG d/\d.id=id:=⟨hg.Rg d (mM hd),by simpa using List.find?_some hd⟩
def Om{s:Bool}(hd:AG d)(hm:(more d s n q).2=0):AG (more d s n q).1/\(more d s n q).1.id=d.id/\(more d s n q).1.ay=d.ay:=by
 obtain⟨⟨i1,i2,i3,i4,i5,i6,i7,i8,i9⟩,i10,i11,i12⟩:=hd;unfold more at hm⊢;cases s with
 |false=>
  simp only[cB,if_false] at hm⊢;by_cases h1:bB<=d.cp+d.cq+n
  ·rw[ai h1] at hm;exact aT hm (by show ¬(32:Int)=0;decide)
  by_cases h2:has d.ak 4/\iu d false<n
  ·rw[ag h1,ai h2] at hm;exact aT hm (by show ¬(34:Int)=0;decide)
  rw[ag h1,ag h2];cases q with
  |true=>exact⟨⟨⟨i1,i2,i3,by show d.cp+n<bB;omega,i5,i6,i7,i8,i9⟩,i10,i11,i12⟩,rfl,rfl⟩
  |false=>exact⟨⟨⟨i1,i2,i3,i4,by show d.cq+n<bB;omega,i6,i7,i8,i9⟩,i10,i11,i12⟩,rfl,rfl⟩
 |true=>
  simp only[if_true] at hm⊢;by_cases h1:bB<=d.dp+d.dq+n
  ·rw[ai h1] at hm;exact aT hm (by show ¬(32:Int)=0;decide)
  by_cases h2:has d.ak 2/\iu d true<n
  ·rw[ag h1,ai h2] at hm;exact aT hm (by show ¬(33:Int)=0;decide)
  rw[ag h1,ag h2];cases q with
  |true=>exact⟨⟨⟨i1,by show d.dp+n<bB;omega,i3,i4,i5,i6,i7,i8,i9⟩,i10,i11,i12⟩,rfl,rfl⟩
  |false=>exact⟨⟨⟨i1,i2,by show d.dq+n<bB;omega,i4,i5,i6,i7,i8,i9⟩,i10,i11,i12⟩,rfl,rfl⟩
def Ld(hd:AG d){yes:Prop}[Decidable yes]:AG (close d yes)/\(close d yes).id=d.id/\(close d yes).ay=d.ay:=by
 obtain⟨⟨i1,i2,i3,i4,i5,i6,i7,i8,i9⟩,i10,i11,i12⟩:=hd;unfold close;split
 ·have hf:0<=d.ak%8+8/\d.ak%8+8<16:=by omega
  exact⟨⟨⟨i1,i2,i3,i4,i5,i6,i7,by show uU (d.ak%8+8);unfold uU;omega,i9⟩,⟨i10.1,i10.2.1,by show 0<=d.ak%8+8/\d.ak%8+8<=65535;omega⟩,hf,i12⟩,rfl,rfl⟩
 ·exact⟨⟨⟨i1,i2,i3,i4,i5,i6,i7,i8,i9⟩,i10,i11,i12⟩,rfl,rfl⟩
def GI{a x:bC}{id:Nat}(hx:b.find id=some x)(kd:a.id≠id):(b.bA a).find id=some x:=by
 unfold aY.find at *;show(b.aB.map λx=>if x.id=a.id then{a with ay:=x.ay} else x).find? _=_;rw[List.find?_map];have:((λy:bC=>decide (y.id=id))∘λx=>if x.id=a.id then{a with ay:=x.ay} else x)=λy:bC=>decide (y.id=id):=by
  funext y
  simp only[Function.comp];by_cases e:y.id=a.id<;>simp[e]
 rw[this,hx];have hxi:x.id=id:=by simpa using List.find?_some hx
 simp only[eW];rw[ag (by rw[hxi];exact λh=>kd h.symm)]
def vw(hg:fk b){id:Nat}{k:bW}(hk:b.named id=some k):KG k/\k.move.id=id:=⟨hg.Q3 k (mM hk),by simpa using List.find?_some hk⟩
end
section
variable {W:World} {L R:LH} {K:VK} {X:WK} {p:Nat} {b:aY} {hs:List C} {f:aY×List C->LH} {t:cE} {d c:bC} {n:Nat}
def Qa(h1:mT t=0)(h2: ¬jA t.ak)(h3:b.named t.id=none)(h4:b.find t.bp=some d)(h5:b.find t.aP=some c)(h6:tM (some d) (some c) t=0):
 jn t (b.named t.id) (b.find t.bp) (b.find t.aP) b.ax.length=(if 96<=b.ax.length then(35,0)
  else if(cZ t d c).2≠0 then((cZ t d c).2,0)
  else if(more d true (cZ t d c).1 (decide (has t.ak 2))).2≠0 then((more d true (cZ t d c).1 (decide (has t.ak 2))).2,0)
  else if(more c false (cZ t d c).1 (decide (has t.ak 2))).2≠0 then((more c false (cZ t d c).1 (decide (has t.ak 2))).2,0)
  else(0,(cZ t d c).1)):=by
 unfold tM at h6;dsimp only at h6;unfold jn;rw[ag (by simpa using h1),ag h2,h3,h4,h5];dsimp only;by_cases g1:d.aZ≠c.aZ
 ·rw[ai g1] at h6;cases h6
 by_cases g2:d.aZ≠t.aZ
 ·rw[ag g1,ai g2] at h6;cases h6
 by_cases g3:8<=d.ak
 ·rw[ag g1,ag g2,ai g3] at h6;cases h6
 by_cases g4:8<=c.ak
 ·rw[ag g1,ag g2,ag g3,ai g4] at h6;cases h6
 rw[ag g1,ag g2,ag g3,ag g4]
def X5(G:qF W)(ht:yJ t)(SO:j0 t)(hl:hs.length<800000)[i:Lc (cO p) L (b,hs) f]
 (h:∀ft,Ext (fF b) hs (fF (b.move t).2) ft 6->T W (f ((b.move t).2,ft)) (K (.i (b.move t).1))):T W L (pA (ah p) (aL t) K):=by
 have hL:f (b,hs)=L:=i.same;refine qm (p:=p) λhg=>?_;have bad:∀r:Int,r≠0->(jn t (b.named t.id) (b.find t.bp) (b.find t.aP) b.ax.length).1=r->T W L (K (.i r)):=by
  intro r hr he;have e:b.move t=(r,b):=by unfold aY.move;dsimp only;rw[he,ai hr]
  rw[e] at h;have:=h hs (Ext.refl _ _ _);rw[hL] at this;exact this
 unfold pA
 repeat' first|apply ws;intros|apply wb|refine JK G ht ?_
 apply dh<;>intro g1
 ·have g1:mT t≠0:=by simpa using g1
  have:=bad (mT t) g1 (by unfold jn;rw[ai g1]);exact T.dp this
 have g1:mT t=0:=by simpa using g1
 have ck:=B4 g1;have hf:0<=t.ak/\t.ak<256:=by have:=ck.ak;omega
 repeat' first|apply ws|apply wb|refine Jk hf ?_
 apply fV<;>intro g2
 ·have:=bad 6 (by decide) (by unfold jn;rw[ag (by simpa using g1),ai g2]);exact T.dp this
 repeat' first|apply ws;intros|apply wb|refine Je ?_
 cases hn:b.named t.id with
 |some k=>
  obtain⟨hk,_⟩:=vw hg hn;simp only[dy,dx]
  repeat' first|apply ws|apply wb|refine JL hf hk.uR ?_
  have:=bad (sE t k.asked) (sC _ _) (by unfold jn;rw[ag (by simpa using g1),ag g2,hn]);exact T.dp this
 |none=>
 simp only[eQ,gw];have key:∀(d c:Option bC),b.find t.bp=d->b.find t.aP=c->tM d c t≠0->(jn t (b.named t.id) (b.find t.bp) (b.find t.aP) b.ax.length).1=tM d c t:=by
  intro d c hd hc kd;rw[hd,hc,hn];unfold jn;rw[ag (by simpa using g1),ag g2];dsimp only;cases d with
  |none=>rfl
  |some d=>
   cases c with
   |none=>rfl
   |some c=>
    unfold tM at kd⊢;dsimp only at kd⊢;by_cases g1:d.aZ≠c.aZ
    ·rw[ai g1,ai g1]
    by_cases g2:d.aZ≠t.aZ
    ·rw[ag g1,ai g2,ag g1,ai g2]
    by_cases g3:8<=d.ak
    ·rw[ag g1,ag g2,ai g3,ag g1,ag g2,ai g3]
    by_cases g4:8<=c.ak
    ·rw[ag g1,ag g2,ag g3,ai g4,ag g1,ag g2,ag g3,ai g4]
    rw[ag g1,ag g2,ag g3,ag g4] at kd;exact aT rfl kd
 apply ws;refine V1 (λd c kd=>?_) (λd c hd hc he=>?_)
 ·apply ws;intros;refine mR (by simpa using kd) ?_;have:=bad _ kd (key _ _ rfl rfl kd);exact T.dp this
 apply ws;intros;obtain⟨gd,E5⟩:=wq hg hd;obtain⟨gc,Dw⟩:=wq hg hc;rw[hd,hc] at he;have OR:=Qa (b:=b) g1 g2 hn hd hc he;refine gL (by simp) ?_
 repeat' first|apply ws|apply wb|refine Ub ?_
 by_cases g3:96<=b.ax.length
 ·rw[aq (by omega)];apply ws;have:=bad 35 (by decide) (by rw[OR,ai g3]);exact T.dp this
 rw[av (by omega)];rw[ag g3] at OR;obtain⟨kd,ag3,WB,aho,Yq⟩:=ck.cm g2
 repeat' first|apply ws;intros|apply wb|refine Qb G gd.ok gc.ok ht.aU hf WB ?_
 apply dh<;>intro g4
 ·have g4:(cZ t d c).2≠0:=by simpa using g4
  have:=bad _ g4 (by rw[OR,ai g4]);exact T.dp this
 have g4: ¬(cZ t d c).2≠0:=by simpa using g4
 rw[ag g4] at OR;have Hn:(cZ t d c).1<bB:=by
  have h1:=E6 (p:=true) gd.ok;have h2:=E6 (p:=false) gc.ok;have h3:=ht.aU;unfold cZ bB at *;dsimp only
  repeat' split
  all_goals first|(show(0:Nat)<_;omega)|(show min _ _<_;omega)|(show _<_;split<;>omega)|omega
 generalize hN:(cZ t d c).1=N at *
 repeat' first|apply ws|apply wb|first|refine uw hf ?_|refine Xw G gd.ok Hn ⟨gd.ak.1,by have:=gd.ak.2;omega⟩ ?_
 apply dh<;>intro g5
 ·have g5:(more d true N (decide (has t.ak 2))).2≠0:=by simpa using g5
  have:=bad _ g5 (by rw[OR,ai g5]);exact T.dp this
 have g5: ¬(more d true N (decide (has t.ak 2))).2≠0:=by simpa using g5
 rw[ag g5] at OR
 repeat' first|apply ws|apply wb|first|refine uw hf ?_|refine Ur G gc.ok Hn ⟨gc.ak.1,by have:=gc.ak.2;omega⟩ ?_
 apply dh<;>intro g6
 ·have g6:(more c false N (decide (has t.ak 2))).2≠0:=by simpa using g6
  have:=bad _ g6 (by rw[OR,ai g6]);exact T.dp this
 have g6: ¬(more c false N (decide (has t.ak 2))).2≠0:=by simpa using g6
 rw[ag g6] at OR;obtain⟨md,mdi,mds⟩:=Om (q:=decide (has t.ak 2)) gd (bh.1 g5);obtain⟨mc,mci,mcs⟩:=Om (q:=decide (has t.ak 2)) gc (bh.1 g6);have e:b.move t=(0,b.Cv t N):=by unfold aY.move;dsimp only;rw[OR];rfl
 rw[e] at h;have em:b.Cv t N=((b.bA (close (more d true N (decide (has t.ak 2))).1 (has t.ak 64))).bA (close (more c false N (decide (has t.ak 2))).1 (has t.ak 128))).mD t {t with aU:=N} (waits t):=by unfold aY.Cv;rw[hd,hc]
 rw[em] at h;have last:∀(D C:bC)(r1 r2 r3 r4:Nat),AG D->AG C->D.id=d.id->C.id=c.id->D.ay=d.ay->C.ay=c.ay->
    (∀ft,Ext (fF b) hs (fF (((b.bA D).bA C).mD t {t with aU:=N} (waits t))) ft 6->T W (f (((b.bA D).bA C).mD t {t with aU:=N} (waits t),ft)) (K (.i 0)))->
    T W (Sep.pt r4 (nm N)::Sep.pt r3 (jL D C)::Sep.pt r2 (bG zK)::Sep.pt r1 (aL t)::L) (pA.j2 K r3 (ah p) r1 r4):=by
  intro D C r1 r2 r3 r4 gD gC hDi hCi hDs hCs hh;have Yn:b.find D.id=some d:=by rw[hDi,E5];exact hd
  have eD:({D with ay:=d.ay}:bC)=D:=by rw[<-hDs]
  have eC:({C with ay:=c.ay}:bC)=C:=by rw[<-hCs]
  have Yo:(b.bA D).find C.id=some c:=GI (by rw[hCi,Dw];exact hc) (by rw[hDi,hCi,E5,Dw];exact kd);have uX:=hg.ay;have ou:=hg.ou;have many:=hg.many;unfold pA.j2;apply ws;refine I8 (p:=p) Yn (by rw[eD];exact gD) (by omega) λAk x1=>?_;have l1:=x1.len;have i1:=i.next (b.bA D,Ak);apply ws;refine I8 (p:=p) Yo (by rw[eC];exact gC) (by omega) λgX x2=>?_;have l2:=x2.len;have i2:=i.next ((b.bA D).bA C,gX)
  repeat' first|apply ws;intros|apply wb|refine uw hf ?_
  have hkg:KG (tg ((b.bA D).bA C) t {t with aU:=N} (waits t)):=by
   have cl:=hg.clock;refine⟨ht,⟨ht.id,ht.bp,ht.aP,Hn,ht.pending,ht.cu,ht.aZ,ht.code,ht.ak,?_,?_⟩,SO,SO,hf,hf,?_,ck.cu,cl⟩
   ·show uU (b.ay+1);unfold uU;omega
   ·show uU b.clock;unfold uU;omega
   ·show 0<=waits t/\waits t<=4;unfold Md.waits;split<;>decide
  have LP:((b.bA D).bA C).named ({t with aU:=N}:cE).id=none:=hn;refine N5 (p:=p) (waits:=decide (has t.ak 2)) LP (show b.ax.length<96 by omega) hkg (by unfold Md.waits;by_cases q:has t.ak 2<;>simp[q]) (by omega) λvQ x3=>?_;apply ws;have:=hh vQ (((x1.trans x2).trans x3).mono (by omega));exact T.dp this
 obtain⟨cd,cdi,cds⟩:=Ld (yes:=has t.ak 64) md;obtain⟨cc,cci,ccs⟩:=Ld (yes:=has t.ak 128) mc;have X6:∀(D:bC)(r1 r2 r3 r4:Nat),D=close (more d true N (decide (has t.ak 2))).1 (has t.ak 64)->T W (Sep.pt r4 (nm N)::Sep.pt r3 (jL D (more c false N (decide (has t.ak 2))).1)::Sep.pt r2 (bG zK)::Sep.pt r1 (aL t)::L) (pA.j1 K r1 r3 (ah p) r4):=by
  intro D r1 r2 r3 r4 hD;unfold pA.j1;apply ws;rw[Tc hf.1 hf.2];have fin:=last D (close (more c false N (decide (has t.ak 2))).1 (has t.ak 128)) r1 r2 r3 r4 (by rw[hD];exact cd) cc (by rw[hD,cdi,mdi]) (by rw[cci,mci]) (by rw[hD,cds,mds]) (by rw[ccs,mcs]) (by rw[hD];exact h);apply fV<;>intro q
  ·apply ws;rw[adA mc.ak.1 mc.ak.2];unfold close at fin;rw[ai q] at fin;exact fin
  ·unfold close at fin;rw[ag q] at fin;exact fin
 apply ws;rw[Yu hf.1 hf.2];apply fV<;>intro q
 ·apply ws;rw[adA md.ak.1 md.ak.2];exact X6 _ _ _ _ _ (by unfold close;rw[ai q])
 ·exact X6 _ _ _ _ _ (by unfold close;rw[ag q])
end
section
variable {m t:cE} {x1 x2 x3 x4 x5 x6 x7 x8 x9 DO DN DM DL HT L5 L4:Value} {n:Nat} {i:Int}
instance:Wr (aL m) 2 (nm n) (aL {m with bp:=n}):=⟨rfl,by show 4<=16;decide,l6 n⟩
instance:Wr (aL m) 4 (nm n) (aL {m with aP:=n}):=⟨rfl,by show 6<=16;decide,l6 n⟩
end
section
variable {W:World} {L R:LH} {K:VK} {X:WK} {p:Nat} {b:aY} {hs:List C} {f:aY×List C->LH} {t q:cE} {d c:bC} {n:Nat} {fate:Int} {k:bW}
def VP(h:T W L (K (.b (decide (¬fH t q))))):T W L (gn (aL t) (aL q) K):=by
 unfold gn;have j3:∀(r1 r2:Nat)(x:Bool),((x=true/\(t.code=0\/t.code=q.code))↔ ¬fH t q)->T W (Sep.pt r2 (aL q)::Sep.pt r1 (aL t)::L) (gn.j3 K r1 r2 x):=by
  intro r1 r2 x hx;unfold gn.j3;apply dh<;>intro g
  ·repeat' first|apply ws|apply wb|apply dh<;>intro h1
   ·have h1:t.code=0:=by simpa using h1
    rw[av (hx.1 ⟨g,.inl h1⟩)] at h;exact T.dp h
   ·have h1: ¬t.code=0:=by simpa using h1
    refine T.fin (T.dp h) ?_
    congr 1
    rw[bV];simp only[vD,decide_eq_true_eq];rw[<-hx]
    constructor
    ·exact λe=>⟨g,.inr e⟩
    ·rintro⟨_,e|e⟩
     ·exact aT e h1
     ·exact e
  ·rw[aq (λhh=>by rw[(hx.2 hh).1] at g;cases g)] at h;exact T.dp h
 have j2:∀(r1 r2:Nat)(x:Bool),((x=true/\(t.aZ=0\/t.aZ=q.aZ)/\(t.code=0\/t.code=q.code))↔ ¬fH t q)->T W (Sep.pt r2 (aL q)::Sep.pt r1 (aL t)::L) (gn.j2 K r1 r2 x):=by
  intro r1 r2 x hx;unfold gn.j2;apply dh<;>intro g
  ·repeat' first|apply ws|apply wb|with_reducible apply dh<;>intro h1
   ·have h1:t.aZ=0:=by simpa using h1
    exact j3 _ _ _ (by rw[<-hx];simp[g,h1])
   ·have h1: ¬t.aZ=0:=by simpa using h1
    exact j3 _ _ _ (by rw[<-hx];simp[g,h1])
  ·exact j3 _ _ _ (by rw[<-hx];simp[g])
 have j1:∀(r1 r2:Nat)(x:Bool),((x=true/\(t.aP=0\/t.aP=q.aP)/\(t.aZ=0\/t.aZ=q.aZ)/\(t.code=0\/t.code=q.code))↔ ¬fH t q)->T W (Sep.pt r2 (aL q)::Sep.pt r1 (aL t)::L) (gn.j1 K r1 r2 x):=by
  intro r1 r2 x hx;unfold gn.j1;apply dh<;>intro g
  ·repeat' first|apply ws|apply wb|with_reducible first|refine uT ?_|apply dh<;>intro h1
   ·have h1:=aQ h1;exact j2 _ _ _ (by rw[<-hx];simp[g,h1])
   ·have h1:=bj h1;exact j2 _ _ _ (by rw[<-hx];simp[g,h1])
  ·exact j2 _ _ _ (by rw[<-hx];simp[g])
 have FZ:((t.bp=0\/t.bp=q.bp)/\(t.aP=0\/t.aP=q.aP)/\(t.aZ=0\/t.aZ=q.aZ)/\(t.code=0\/t.code=q.code))↔ ¬fH t q:=by unfold fH;omega
 repeat' first|apply ws;intros|apply wb|with_reducible first|refine uT ?_|apply dh<;>intro h1
 ·have h1:=aQ h1;exact j1 _ _ _ (by rw[<-FZ];simp[h1])
 ·have h1:=bj h1;exact j1 _ _ _ (by rw[<-FZ];simp[h1])
def nE(pend:Option bW)(t:cE):Int:=match pend with
 |none=>23
 |some k=>if ¬has k.move.ak 2 then 24 else if fH t k.move then 25 else if 1<k.fate then 25+k.fate else 0
def Wv(G:qF W)[i:Lc (cO p) L (b,hs) f](h0:∀m,nE (b.named t.pending) t≠0->T W L (K (.tuple ⟨[.agg ⟨aL m⟩,.i (nE (b.named t.pending) t)]⟩)))
 (h:∀k,b.named t.pending=some k->nE (b.named t.pending) t=0->T W L (K (.tuple ⟨[.agg ⟨aL k.move⟩,.i 0]⟩))):T W L (yW (ah p) (aL t) K):=by
 refine qm (p:=p) λhg=>?_;unfold yW
 repeat' first|apply ws;intros|apply wb|refine Je ?_
 cases hn:b.named t.pending with
 |none=>
  rw[hn] at h0;simp only[eQ,gw];have:=h0 zT (by show(23:Int)≠0;decide);apply ws;exact T.dp this
 |some k=>
  rw[hn] at h0 h;obtain⟨kg,_⟩:=vw hg hn;simp only[dy,dx]
  repeat' first|apply ws|apply wb|refine uw kg.wa ?_
  by_cases g1:has k.move.ak 2
  ·rw[av g1]
   repeat' first|apply ws|apply wb|refine VP ?_
   by_cases g2:fH t k.move
   ·have e:nE (some k) t=25:=by unfold nE;dsimp only;rw[ag (λh=>h g1),ai g2]
    rw[e] at h0;have:=h0 zT (by decide);rw[aq (λh=>h g2)];apply ws;exact T.dp this
   ·rw[av g2];obtain⟨f1,f2⟩:=kg.fate;have e:nE (some k) t=if 1<k.fate then 25+k.fate else 0:=by unfold nE;dsimp only;rw[ag (λh=>h g1),ag g2]
    obtain⟨fn,hfn⟩:∃fn:Nat,k.fate=fn:=⟨k.fate.toNat,by omega⟩;have OM:fn<5:=by omega
    have UB:([.i 0,.i 0,.i 27,.i 28,.i 29]:LV)[fn]?=some (.i (if 1<k.fate then 25+k.fate else 0)):=by
     rw[hfn]
     match fn,OM with
     |0,_=>rfl
     |1,_=>rfl
     |2,_=>rfl
     |3,_=>rfl
     |4,_=>rfl
    apply ws;refine dD ⟨f1,by omega⟩ ?_;have hnt:k.fate.toNat* 1=fn:=by omega
    rw[hnt];have zw:=G.told fn _ UB;refine λw gX=>⟨_,by rw[gX.old (DB zw)];exact zw,?_⟩;refine T.at ?_ gX;apply ws;refine λw gX=>⟨λj v hj=>?_,?_⟩
    ·match j,hj with
     |0,hj=>
      simp at hj;subst hj;have OQ:=zw;rw[gN,aC] at OQ;rw[gN,dZ,gX.old (DB OQ)];exact OQ
    refine T.at ?_ gX;apply ws;rw[<-e];by_cases g3:nE (some k) t=0
    ·rw[g3];have:=h k rfl g3;exact T.dp this
    ·have:=h0 k.move g3;exact T.dp this
  ·have e:nE (some k) t=24:=by unfold nE;dsimp only;rw[ai g1]
   rw[e] at h0;have:=h0 zT (by decide);rw[aq g1];apply ws;exact T.dp this
def acp{f:Int}(h0:0<=f)(h1:f<256):(db .i64 .and f 8!=0)=decide (has f 8):=by
 rw[bV];simp only[fy,ne_eq,decide_eq_true_eq];rw[TQ h0 h1,bh]
def Qt(hf:0<=t.ak/\t.ak<256)(h48:has t.ak 8↔ ¬has t.ak 4)(h0:lF t q->T W L (K (.tuple ⟨[.agg ⟨nm 0⟩,.i 26]⟩)))
 (h: ¬lF t q->T W L (K (.tuple ⟨[.agg ⟨nm (cM t q)⟩,.i 0]⟩))):T W L (oB (aL t) (aL q) K):=by
 unfold oB
 repeat' first|apply ws;intros|apply wb|refine uT ?_
 apply fV<;>intro g1
 ·have e:cM t q=q.aU:=ai g1;have hb: ¬lF t q:=by unfold lF;rw[e];omega
  have:=h hb;rw[e] at this;apply ws;exact T.dp this
 have e:cM t q=t.aU:=ag g1;unfold oB.j1;apply ws;rw[acp hf.1 hf.2];apply fV<;>intro g2
 ·apply ws;by_cases g3:t.aU=q.aU
  ·have hb: ¬lF t q:=by
    unfold lF;rw[e];have:=h48.1 g2;rintro(⟨h4,_⟩|⟨_,h4⟩)
    ·exact this h4
    ·exact h4 g3
   have:=h hb;rw[e] at this;rw[av g3]
   repeat' first|apply ws|apply wb|refine Cb ?_
   refine gL (by simp;omega) ?_;apply ws;exact T.dp this
  ·have hb:lF t q:=.inr ⟨h48.1 g2,by rw[e];exact g3⟩;have:=h0 hb;rw[aq g3];apply ws;exact T.dp this
 ·have g4:has t.ak 4:=bh.1 λhh=>g2 (h48.2 hh)
  repeat' first|apply ws|apply wb|refine Cb ?_
  apply fV<;>intro g3
  ·have:=h0 (.inl ⟨g4,by rw[e];exact g3⟩);apply ws;exact T.dp this
  ·have:=h (by
    rintro(⟨_,h4⟩|⟨h4,_⟩)
    ·rw[e] at h4;exact g3 h4
    ·exact h4 g4)
   rw[e] at this;apply ws;exact T.dp this
def aah{f:Int}(h0:0<=f)(h1:f<256):(db .i64 .and f 64==0)=decide (¬has f 64):=by
 rw[bV];simp only[vD,decide_eq_true_eq];rw[TR h0 h1]
def Wz{f:Int}(h0:0<=f)(h1:f<256):(db .i64 .and f 128==0)=decide (¬has f 128):=by
 rw[bV];simp only[vD,decide_eq_true_eq];rw[O9 h0 h1]
def Qs[i:Lc (cO p) L (b,hs) f](hq:0<=q.ak/\q.ak<256)(hd:b.find q.bp=some d)(hc:b.find q.aP=some c)
 (h:T W L (K (.i (if 8<=d.ak/\ ¬has q.ak 64 then 30 else if 8<=c.ak/\ ¬has q.ak 128 then 31 else 0)))):T W L (nh (ah p) (aL q) K):=by
 refine qm (p:=p) λhg=>?_;have fd:=(hg.Rg d (mM hd)).ak;have fc:=(hg.Rg c (mM hc)).ak;unfold nh
 repeat' first|apply ws;intros|apply wb|refine wB ?_
 rw[hd,hc];simp only[dy,dx];rename_i r1 r2 r3;have j1:∀x:Bool,(x=true↔(8<=d.ak/\ ¬has q.ak 64))->T W (Sep.pt r3 (aK c)::Sep.pt r2 (aK d)::Sep.pt r1 (aL q)::L) (nh.j1 K r3 r1 x):=by
  intro x hx;unfold nh.j1;apply dh<;>intro g
  ·rw[ai (hx.1 g)] at h;exact T.dp h
  rw[ag (λhh=>by rw[hx.2 hh] at g;cases g)] at h;apply ws;rw[Wy fc.1 fc.2];apply fV<;>intro g1
  ·apply ws;rw[Wz hq.1 hq.2];apply fV<;>intro g2
   ·rw[ai ⟨g1,g2⟩] at h;exact T.dp h
   ·rw[ag (λhh=>g2 hh.2)] at h;exact T.dp h
  ·rw[ag (λhh=>g1 hh.1)] at h;exact T.dp h
 rw[Wy fd.1 fd.2];apply fV<;>intro g1
 ·apply ws;rw[aah hq.1 hq.2];exact j1 _ (by simp[g1])
 ·exact j1 _ (by simp[g1])
end
section
variable {b:aY} {t q:cE} {d c:bC} {n:Nat} {fate:Int}
def Vo(hd:AG d)(hn:fate=2->d.dq+n<bB):AG (zJ d q n fate):=by
 obtain⟨⟨i1,i2,i3,i4,i5,i6,i7,i8,i9⟩,i10,i11,i12⟩:=hd;have hf:0<=d.ak%8/\d.ak%8<16:=by omega
 unfold zJ open_;split
 ·exact⟨⟨i1,by show d.dp-q.aU<bB;omega,by show d.dq+n<bB;exact hn (by assumption),i4,i5,i6,i7,i8,i9⟩,i10,i11,i12⟩
 ·split
  ·exact⟨⟨i1,by show d.dp-q.aU<bB;omega,i3,i4,i5,i6,i7,by show uU (d.ak%8);unfold uU;omega,i9⟩,⟨i10.1,i10.2.1,by show 0<=d.ak%8/\d.ak%8<=65535;omega⟩,hf,i12⟩
  ·exact⟨⟨i1,by show d.dp-q.aU<bB;omega,i3,i4,i5,i6,i7,i8,i9⟩,i10,i11,i12⟩
def Vp(hd:AG d)(hn:fate=2->d.cq+n<bB):AG (AJ d q n fate):=by
 obtain⟨⟨i1,i2,i3,i4,i5,i6,i7,i8,i9⟩,i10,i11,i12⟩:=hd;have hf:0<=d.ak%8/\d.ak%8<16:=by omega
 unfold AJ open_;split
 ·exact⟨⟨i1,i2,i3,by show d.cp-q.aU<bB;omega,by show d.cq+n<bB;exact hn (by assumption),i6,i7,i8,i9⟩,i10,i11,i12⟩
 ·split
  ·exact⟨⟨i1,i2,i3,by show d.cp-q.aU<bB;omega,i5,i6,i7,by show uU (d.ak%8);unfold uU;omega,i9⟩,⟨i10.1,i10.2.1,by show 0<=d.ak%8/\d.ak%8<=65535;omega⟩,hf,i12⟩
  ·exact⟨⟨i1,i2,i3,by show d.cp-q.aU<bB;omega,i5,i6,i7,i8,i9⟩,i10,i11,i12⟩
end
section
variable {W:World} {L R:LH} {K:VK} {X:WK} {p:Nat} {b:aY} {hs:List C} {f:aY×List C->LH} {t q:cE} {d c:bC} {n:Nat} {fate:Int} {k:bW}
def GX[i:Lc (cO p) L (b,hs) f](hk:b.named q.id=some k)(Wq:k.fate=1)(hq:0<=q.ak/\q.ak<256)(hqa:q.aU<bB)(Hn:n<bB)(hd:b.find q.bp=some d)(hc:b.find q.aP=some c)(kd:q.bp≠q.aP)(hf:fate=2\/fate=3\/fate=4)
 (KD:fate=2->d.dq+n<bB)(u1:fate=2->c.cq+n<bB)(hl:hs.length<800000)
 (h:∀ft,Ext (fF b) hs (fF (b.release q n fate)) ft 4->T W (f (b.release q n fate,ft)) (K (.tuple ⟨[]⟩))):T W L (dX (ah p) (aL q) (nm n) fate K):=by
 refine qm (p:=p) λhg=>?_;obtain⟨gd,E5⟩:=wq hg hd;obtain⟨gc,Dw⟩:=wq hg hc;have er:b.release q n fate=((b.bA (zJ d q n fate)).bA (AJ c q n fate)).fate q.id fate:=by unfold aY.release;rw[hd,hc]
 rw[er] at h;have last:∀(D E:bC)(r1 r2 r3 r4:Nat),D=zJ d q n fate->E=AJ c q n fate->T W (Sep.pt r4 (aK E)::Sep.pt r3 (aK D)::Sep.pt r2 (nm n)::Sep.pt r1 (aL q)::L) (dX.j1 K r3 (ah p) r4 r1 fate):=by
  intro D E r1 r2 r3 r4 hD hE;have hDi:D.id=d.id:=by rw[hD];exact(Ij _ _ _ _).1
  have hEi:E.id=c.id:=by rw[hE];exact(Ik _ _ _ _).1
  have gD:AG {D with ay:=d.ay}:=by
   have:=Vo (q:=q) (n:=n) (fate:=fate) gd KD;rw[<-hD] at this;have es:D.ay=d.ay:=by rw[hD];exact(Ij _ _ _ _).2
   have e2:({D with ay:=d.ay}:bC)=D:=by rw[<-es]
   rw[e2];exact this
  have gE:AG {E with ay:=c.ay}:=by
   have:=Vp (q:=q) (n:=n) (fate:=fate) gc u1;rw[<-hE] at this;have es:E.ay=c.ay:=by rw[hE];exact(Ik _ _ _ _).2
   have e2:({E with ay:=c.ay}:bC)=E:=by rw[<-es]
   rw[e2];exact this
  rw[<-hD,<-hE] at h;unfold dX.j1;apply ws;refine I8 (p:=p) (by rw[hDi,E5];exact hd) gD (by omega) λAk x1=>?_;have l1:=x1.len;have i1:=i.next (b.bA D,Ak);apply ws;refine I8 (p:=p) (old:=c) (GI (by rw[hEi,Dw];exact hc) (by rw[hDi,hEi,E5,Dw];exact kd)) gE (by omega) λgX x2=>?_;have l2:=x2.len;have i2:=i.next ((b.bA D).bA E,gX);apply ws;refine Zi (p:=p) (k:=k) (show((b.bA D).bA E).named q.id=some k from hk) Wq hf (by omega) λvQ x3=>?_;apply ws;have:=h vQ (((x1.trans x2).trans x3).mono (by omega));exact T.dp this
 have abw:∀x y:Nat,(if x<y then 0 else x-y)=x-y:=λx y=>by split<;>omega
 unfold dX
 repeat' first|apply ws;intros|apply wb|refine wB ?_
 rw[hd,hc];simp only[dy,dx]
 repeat' first|apply ws|apply wb|first|refine T6 gd.ok.dp hqa ?_|refine T6 gc.ok.cp hqa ?_
 rw[abw,abw];apply dh<;>intro g1
 ·have g1:fate=2:=by simpa using g1
  repeat' first|apply ws|apply wb|first|refine CW gd.ok.dq Hn ?_|refine CW gc.ok.cq Hn ?_
  rw[ai (KD g1),ai (u1 g1)];refine last _ _ _ _ _ _ ?_ ?_
  ·unfold zJ;rw[ai g1]
  ·unfold AJ;rw[ai g1]
 ·have g1: ¬fate=2:=by simpa using g1
  have j2:∀(D:bC)(r1 r2 r3 r4:Nat),D=zJ d q n fate->T W (Sep.pt r4 (aK {c with cp:=c.cp-q.aU})::Sep.pt r3 (aK D)::Sep.pt r2 (nm n)::Sep.pt r1 (aL q)::L) (dX.j2 K r1 r4 r3 (ah p) fate):=by
   intro D r1 r2 r3 r4 hD;unfold dX.j2;apply ws;rw[Tc hq.1 hq.2];apply fV<;>intro g2
   ·apply ws;rw[Yz gc.ak.1 gc.ak.2];refine last _ _ _ _ _ _ hD ?_;unfold AJ open_;rw[ag g1,ai g2]
   ·refine last _ _ _ _ _ _ hD ?_;unfold AJ open_;rw[ag g1,ag g2]
  apply ws;rw[Yu hq.1 hq.2];apply fV<;>intro g2
  ·apply ws;rw[Yz gd.ak.1 gd.ak.2];refine j2 _ _ _ _ _ ?_;unfold zJ open_;rw[ag g1,ai g2]
  ·refine j2 _ _ _ _ _ ?_;unfold zJ open_;rw[ag g1,ag g2]
structure LA(b:aY)(k:bW):Prop where
 bp:∃d,b.find k.move.bp=some d/\k.move.aU<=d.dp/\d.dp+d.dq<bB
 aP:∃c,b.find k.move.aP=some c/\k.move.aU<=c.cp/\c.cp+c.cq<bB
 ne:k.move.bp≠k.move.aP
def M1{id:Nat}(hn:b.named id=none){id':Nat}:(b.fate id' fate).named id=none:=by
 unfold aY.named at *;rw[mW] at *;intro x hx;obtain⟨y,hy,rfl⟩:=cw.1 hx;have:=hn y hy;split<;>exact this
def Gg{id:Nat}(hn:b.named id=none):(b.release q n fate).named id=none:=by
 unfold aY.release;split
 ·exact M1 hn
 ·exact hn
def aad(G:qF W)(ht:yJ t)(SO:j0 t)(tG:mT t=0)(rj:jA t.ak)(hw:∀k∈b.ax,has k.move.ak 2->k.fate<=1->k.fate=1/\LA b k)(hl:hs.length<800000)[i:Lc (cO p) L (b,hs) f]
 (h:∀ft,Ext (fF b) hs (fF (b.oN t).2) ft 8->T W (f ((b.oN t).2,ft)) (K (.i (b.oN t).1))):T W L (rM (ah p) (aL t) K):=by
 have hL:f (b,hs)=L:=i.same;refine qm (p:=p) λhg=>?_;have ck:=B4 tG;have hf:0<=t.ak/\t.ak<256:=by have:=ck.ak;omega
 have bad:∀r:Int,r≠0->(b.oN t)=(r,b)->T W L (K (.i r)):=by
  intro r hr e;rw[e] at h;have:=h hs (Ext.refl _ _ _);rw[hL] at this;exact this
 unfold rM
 repeat' first|apply ws;intros|apply wb|refine Je ?_
 cases hn:b.named t.id with
 |some k=>
  obtain⟨hk,_⟩:=vw hg hn;simp only[dy,dx]
  repeat' first|apply ws|apply wb|refine JL hf hk.uR ?_
  have:=bad (sE t k.asked) (sC _ _) (by
   unfold aY.oN
   have e1:∀(pend:Option bW)(x y:Bool)(m:Nat),nH t (some k) pend x y m=sE t k.asked:=by
    intro pend x y m;unfold nH;rw[ag (by simpa using tG),ag (by simpa using rj)]
   rw[hn]
   cases b.named t.pending with
   |none=>dsimp only;rw[e1]
   |some k2=>dsimp only;rw[e1,ai (sC _ _)])
  exact T.dp this
 |none=>
 simp only[eQ,gw];apply ws;have OR:∀(k2:bW),b.named t.pending=some k2->∀(x y:Bool)(m:Nat),nH t none (some k2) x y m=(if nE (some k2) t≠0 then nE (some k2) t else if lF t k2.move then 26 else if has t.ak 4/\x=true then 30 else if has t.ak 4/\y=true then 31 else if 96<=m then 35 else 0):=by
  intro k2 _ x y m;unfold nH;rw[ag (by simpa using tG),ag (by simpa using rj)];dsimp only;by_cases g1: ¬has k2.move.ak 2
  ·have hv:nE (some k2) t=24:=by unfold nE;dsimp only;rw[ai g1]
   rw[hv,ai g1,ai (by decide)]
  by_cases g2:fH t k2.move
  ·have hv:nE (some k2) t=25:=by unfold nE;dsimp only;rw[ag g1,ai g2]
   rw[hv,ag g1,ai g2,ai (by decide)]
  by_cases g3:1<k2.fate
  ·have hv:nE (some k2) t=25+k2.fate:=by unfold nE;dsimp only;rw[ag g1,ag g2,ai g3]
   rw[hv,ag g1,ag g2,ai g3,ai (by omega)]
  ·have hv:nE (some k2) t=0:=by unfold nE;dsimp only;rw[ag g1,ag g2,ag g3]
   rw[hv,ag g1,ag g2,ag g3,ag (show ¬((0:Int)≠0) by decide)]
 refine Wv G (λm kd=>?_) (λk2 rq he=>?_)
 ·apply ws;intros;refine mR (by simpa using kd) ?_;have:=bad _ kd (by
   unfold aY.oN
   rw[hn]
   cases hp:b.named t.pending with
   |none=>
    dsimp only
    have:nH t none none false false b.ax.length=23:=by unfold nH;rw[ag (by simpa using tG),ag (by simpa using rj)]
    rw[this];rfl
   |some k2=>
    rw[hp] at kd
    dsimp only
    rw[OR k2 hp,ai kd,ai kd])
  exact T.dp this
 apply ws;intros;rw[rq] at he;obtain⟨kg,ad8⟩:=vw hg rq;have OK:k2∈b.ax:=mM rq;have h2p:has k2.move.ak 2/\k2.fate<=1:=by
  unfold nE at he;dsimp only at he;by_cases g1: ¬has k2.move.ak 2
  ·rw[ai g1] at he;cases he
  rw[ag g1] at he;by_cases g2:fH t k2.move
  ·rw[ai g2] at he;cases he
  rw[ag g2] at he;by_cases g3:1<k2.fate
  ·rw[ai g3] at he;omega
  exact⟨bh.1 g1,by omega⟩
 obtain⟨Ww,⟨⟨d,hd,hda,hds⟩,⟨c,hc,hca,LZ⟩,kd⟩⟩:=hw k2 OK h2p.1 h2p.2;have e0:∀r:Int,r=(if lF t k2.move then 26 else if has t.ak 4/\b.mo k2.move.bp (has k2.move.ak 64)=true then 30 else if has t.ak 4/\b.mo k2.move.aP (has k2.move.ak 128)=true then 31 else if 96<=b.ax.length then 35 else 0)->
  b.oN t=(if r≠0 then(r,b) else(0,(b.release k2.move (cM t k2.move) (cJ t)).mD t (l7 t k2.move) 0)):=by
  intro r hr;subst hr;unfold aY.oN;rw[rq,hn];dsimp only;rw[OR k2 rq,he,ag (show ¬((0:Int)≠0) by decide)]
 have h48:has t.ak 8↔ ¬has t.ak 4:=(Fk tG rj).2.1;refine gL (by simp) ?_;apply ws;refine Qt hf h48 (λhb=>?_) (λhb=>?_)
 ·apply ws;intros;have:=bad 26 (by decide) (by rw[e0 26 (by rw[ai hb])];rfl);exact T.dp this
 have hN:cM t k2.move<bB:=by unfold cM;split;exact kg.move.aU;exact ht.aU
 have acu:has t.ak 4->cM t k2.move<=k2.move.aU:=λh4=>by
  unfold lF at hb;by_cases hx:k2.move.aU<cM t k2.move
  ·exact aT (.inl ⟨h4,hx⟩) hb
  ·omega
 have uX:=hg.ay;have ou:=hg.ou;have many:=hg.many;have cl:=hg.clock;have fin:∀(r1 r2 r3 r4:Nat)(fate:Int),fate=cJ t->(if 96<=b.ax.length then b.oN t=(35,b) else b.oN t=(0,(b.release k2.move (cM t k2.move) (cJ t)).mD t (l7 t k2.move) 0))->
  T W (Sep.pt r4 (nm (cM t k2.move))::Sep.pt r3 (aL k2.move)::Sep.pt r2 (bG zK)::Sep.pt r1 (aL t)::L) (rM.j1 K (ah p) r3 r4 r1 fate):=by
  intro r1 r2 r3 r4 fate hfa Gr;unfold rM.j1
  repeat' first|apply ws|apply wb|refine Ub ?_
  by_cases g3:96<=b.ax.length
  ·rw[ai g3] at Gr;rw[aq (by omega)];apply ws;have:=bad 35 (by decide) Gr;exact T.dp this
  rw[ag g3] at Gr;rw[av (by omega)];rw[Gr,<-hfa] at h;apply ws;have hf3:fate=2\/fate=3\/fate=4:=by rw[hfa];unfold cJ;split<;>simp
  have h24:fate=2->has t.ak 4:=λe=>by
   rw[hfa] at e;unfold cJ at e;split at e
   ·assumption
   ·cases e
  refine GX (p:=p) (k:=k2) (d:=d) (c:=c) (by rw[ad8];exact rq) Ww kg.wa kg.move.aU hN hd hc kd hf3 (λe=>by have:=acu (h24 e);omega) (λe=>by have:=acu (h24 e);omega) hl λAk x1=>?_;have l1:=x1.len;have i1:=i.next (b.release k2.move (cM t k2.move) fate,Ak);apply ws;intros;have hrk:(b.release k2.move (cM t k2.move) fate).ax.length=b.ax.length:=by unfold aY.release;rw[hd,hc];show(List.map _ _).length=_;rw[bP];rfl
  have hrs:(b.release k2.move (cM t k2.move) fate).ay=b.ay:=by unfold aY.release;rw[hd,hc];rfl
  have hrc:(b.release k2.move (cM t k2.move) fate).clock=b.clock:=by unfold aY.release;rw[hd,hc];rfl
  have hkg:KG (tg (b.release k2.move (cM t k2.move) fate) t (l7 t k2.move) 0):=by
   have kt:=kg.Ol;have ahj:=SO;refine⟨ht,⟨ht.id,kg.move.bp,kg.move.aP,hN,ht.pending,ht.cu,kg.move.aZ,kg.move.code,ht.ak,?_,?_⟩,SO,⟨SO.1,kt.2.1,kt.2.2.1,SO.2.2.2⟩,hf,hf,by show(0:Int)<=0/\(0:Int)<=4;decide,ck.cu,?_⟩
   ·show uU (aY.ay _+1);rw[hrs];unfold uU;omega
   ·show uU (aY.clock _);rw[hrc];unfold uU;omega
   ·show 0<=aY.clock _/\aY.clock _<=_;rw[hrc];exact cl
  refine N5 (p:=p) (t:=l7 t k2.move) (waits:=false) (fate:=0) (Gg hn) (by rw[hrk];omega) hkg rfl (by omega) λgX x2=>?_;apply ws;have:=h gX ((x1.trans x2).mono (by omega));exact T.dp this
 apply ws;intros;refine gL (by decide) ?_;apply ws;rw[aes hf.1 hf.2];apply fV<;>intro g4
 ·apply ws;refine Qs (p:=p) kg.wa hd hc ?_;have c1:(b.mo k2.move.bp (has k2.move.ak 64)=true)↔(8<=d.ak/\ ¬has k2.move.ak 64):=by unfold aY.mo;rw[hd];simp
  have c2:(b.mo k2.move.aP (has k2.move.ak 128)=true)↔(8<=c.ak/\ ¬has k2.move.ak 128):=by unfold aY.mo;rw[hc];simp
  by_cases g5:8<=d.ak/\ ¬has k2.move.ak 64
  ·rw[ai g5];apply ws;refine mR (by decide) ?_;have:=bad 30 (by decide) (by rw[e0 30 (by rw[ag hb,ai ⟨g4,c1.2 g5⟩])];rfl);exact T.dp this
  rw[ag g5];by_cases g6:8<=c.ak/\ ¬has k2.move.ak 128
  ·rw[ai g6];apply ws;refine mR (by decide) ?_;have:=bad 31 (by decide) (by rw[e0 31 (by rw[ag hb,ag (λhh=>g5 (c1.1 hh.2)),ai ⟨g4,c2.2 g6⟩])];rfl);exact T.dp this
  rw[ag g6];apply ws;refine gL (by decide) ?_;refine fin _ _ _ _ _ (by unfold cJ;rw[ai g4]) ?_;by_cases g7:96<=b.ax.length
  ·rw[ai g7,e0 35 (by rw[ag hb,ag (λhh=>g5 (c1.1 hh.2)),ag (λhh=>g6 (c2.1 hh.2)),ai g7])];rfl
  ·rw[ag g7,e0 0 (by rw[ag hb,ag (λhh=>g5 (c1.1 hh.2)),ag (λhh=>g6 (c2.1 hh.2)),ag g7])];rfl
 ·refine fin _ _ _ _ _ (by unfold cJ;rw[ag g4]) ?_;by_cases g7:96<=b.ax.length
  ·rw[ai g7,e0 35 (by rw[ag hb,ag (λhh=>g4 hh.1),ag (λhh=>g4 hh.1),ai g7])];rfl
  ·rw[ag g7,e0 0 (by rw[ag hb,ag (λhh=>g4 hh.1),ag (λhh=>g4 hh.1),ag g7])];rfl
def acv(G:qF W)(ht:yJ t)(SO:j0 t)(hw:∀k∈b.ax,has k.move.ak 2->k.fate<=1->k.fate=1/\LA b k)(hl:hs.length<800000)[i:Lc (cO p) L (b,hs) f]
 (h:∀ft,Ext (fF b) hs (fF (b.qL t).2) ft 8->T W (f ((b.qL t).2,ft)) (K (.i (b.qL t).1))):T W L (nO (ah p) (aL t) K):=by
 unfold nO
 repeat' first|apply ws;intros|apply wb|refine JK G ht ?_
 unfold nO.j1;apply dh<;>intro g1
 ·have g1:mT t≠0:=by simpa using g1
  have e:b.qL t=b.move t:=by unfold aY.qL;rw[ag (λhh=>g1 hh.1)]
  rw[e] at h;apply ws;refine X5 G ht SO hl λft hx=>?_;apply ws;have:=h ft (hx.mono (by omega));exact T.dp this
 have g1:mT t=0:=by simpa using g1
 have ck:=B4 g1
 repeat' first|apply ws|apply wb|refine Jk (show 0<=t.ak/\t.ak<256 by have:=ck.ak;omega) ?_
 by_cases g2:jA t.ak
 ·have e:b.qL t=b.oN t:=by unfold aY.qL;rw[ai ⟨g1,g2⟩]
  rw[e] at h;rw[av g2];apply ws;refine aad G ht SO g1 g2 hw hl λft hx=>?_;apply ws;have:=h ft hx;exact T.dp this
 ·have e:b.qL t=b.move t:=by unfold aY.qL;rw[ag (λhh=>g2 hh.2)]
  rw[e] at h;rw[aq g2];apply ws;refine X5 G ht SO hl λft hx=>?_;apply ws;have:=h ft (hx.mono (by omega));exact T.dp this
end
section
variable {W:World} {L R:LH} {K:VK} {X:WK} {p:Nat} {b:aY} {hs:List C} {f:aY×List C->LH}
def zI:Item:=⟨0,0,0⟩
instance{x1 x2 x3 x4:Value}:Wr [x1,x2,x3,x4] 0 [.i 0,.i 0,.u 0,.u 0] (gA zI):=⟨rfl,aG _,qe zI⟩
instance{x:Item}:Sub (gA x) 2 2 (nm x.id):=⟨rfl,λj v h=>by
 match j with
 |0=>exact h
 |1=>exact h
 |j+2=>simp[nm] at h⟩
def Sj{r o:Nat}{cs:LV}{bb:OA}{c:Nat}{h:List Item}(hv:cs[o]?=some (.l bb h.length c))(hl:h.length<10000)
 (hx:∀x,h[0]?=some x->T W (Sep.pt r cs::own bb h.length c 4 (h.flatMap gA)::R) (K (.tuple ⟨[.agg ⟨gA x⟩,.b true]⟩)))
 (h0:h=[]->T W (Sep.pt r cs::own bb h.length c 4 (h.flatMap gA)::R) (K (.tuple ⟨[.agg ⟨gA zI⟩,.b false]⟩))):
 T W (Sep.pt r cs::own bb h.length c 4 (h.flatMap gA)::R) (ng (some ⟨r,o,none⟩) K):=by
 unfold ng tD;refine tS λr1=>?_;refine yk ?_;refine CY ?_;refine m9 hv ?_;refine wL ?_;refine pF ?_;apply dh<;>intro g
 ·have g:h=[]:=by
   have:((h.length:Nat):Int)=0:=by simpa using g
   exact List.length_eq_zero_iff.1 (by omega)
  apply ws;have:=h0 g;exact T.dp this
 ·have g:0<h.length:=by
   have: ¬((h.length:Nat):Int)=0:=by simpa using g
   omega
  refine CY ?_;refine m9 hv ?_;refine wL ?_;have gx:=aj g;refine dM ⟨by omega,by omega⟩ λrb hb=>?_;subst hb;refine gI (o:=0) iI gx ?_;apply ws;have:=hx _ gx;exact T.dp this
def QJ{q:Core}{f:Core->LH}[i:Lc (gM p) L q f](hl:q.ends.length<10000)
 (h1:∀x,x∈q.ends->(∀y∈q.ends,¬bf y x)->T W L (K (.tuple ⟨[.agg ⟨gA x⟩,.b true]⟩)))(h0:q.ends=[]->T W L (K (.tuple ⟨[.agg ⟨gA zI⟩,.b false]⟩))):T W L (ng (some ⟨p,6,none⟩) K):=by
 have hL:f q=L:=i.same;rw[<-hL] at h0 h1;refine qn (p:=p) λb1 c1 b2 c2 b3 c3 hp R g1 g2 hc=>?_;refine T.Mp ?_;refine Sj rfl (by rw[g2.length_eq];exact hl) (λx hx=>?_) (λhn=>?_)
 ·refine T.Ej ?_;exact hc [] q b1 c1 b2 c2 b3 c3 hp _ g1 g2 (h1 x (g2.mem_iff.1 (cb hx)) λy hy=>g1.first hx y (g2.mem_iff.2 hy))
 ·refine T.Ej ?_;exact hc [] q b1 c1 b2 c2 b3 c3 hp _ g1 g2 (h0 (by subst hn;exact(List.nil_perm.1 g2)))
def tick(b:aY)(now:Int):aY:={b with clock:=if b.clock<now/\now<=1099511627776 then now else b.clock}
def Vg[i:Lc (cO p) L (b,hs) f]{now:Int}(hl:hs.length<900000)
 (h:∀ft,Ext (fF b) hs (fF (Go.Up.tick b now)) ft 1->T W (f (Go.Up.tick b now,ft)) (K (.tuple ⟨[]⟩))):T W L (eo (ah p) now K):=by
 refine LK (p:=p) λla lk ti tn vs bx R hg hc pG=>?_;have OF:vs.reverse.length<900000:=by rw[jb,hc.len];omega
 have hck:=hg.clock;have same: ¬(b.clock<now/\now<=1099511627776)->Go.Up.tick b now=b:=λhn=>by unfold Go.Up.tick;rw[ag hn]
 unfold eo;apply ws;intros;rename_i r1;apply fV<;>intro g
 ·have g:now<=b.clock:=g;have e:=same (by omega);rw[e] at h;have fin:=pG [] b hs vs bx _ hg hc (h hs (Ext.refl _ _ _));unfold eo.j1;apply ws;exact T.dp fin
 have g: ¬now<=b.clock:=g;unfold eo.j1;apply fV<;>intro g2
 ·have g2:now>1099511627776:=g2;have e:=same (by omega);rw[e] at h;have fin:=pG [] b hs vs bx _ hg hc (h hs (Ext.refl _ _ _));exact T.dp fin
 have g2: ¬now>1099511627776:=g2;have e:Go.Up.tick b now={b with clock:=now}:=by unfold Go.Up.tick;rw[ai ⟨by omega,by omega⟩]
 rw[e] at h;apply ws;intros;rename_i r2;refine Me (p:=p) ?_;apply ws;refine vP (p:=p) (by show vs.reverse.length<_;omega) rfl rfl ?_;apply ws;refine eL (eL ?_);have iq:fk {b with clock:=now}:={hg with clock:=by show 0<=now/\now<=_;omega};have fin:=λoe c1=>pG [] {b with clock:=now} _ (XJ r2 r1::vs) oe _ iq c1 (h _ ⟨[fF b],rfl,rfl,by simp⟩);simp only[gp,xC] at fin;refine fin _ ⟨?_,hc.mono λx hx=>by simp[hx]⟩;exact CV.time (c:=fF {b with clock:=now}) (by repeat (first|exact dH.head _|apply dH.tail)) (by repeat (first|exact dH.head _|apply dH.tail))
def R8[i:Lc (cO p) L (b,hs) f]
 (h1:∀k,k∈b.ax->kY b.clock k->T W L (K (.tuple ⟨[.agg ⟨bG k⟩,.b true]⟩)))
 (h0:(∀k∈b.ax,¬kY b.clock k)->T W L (K (.tuple ⟨[.agg ⟨bG zK⟩,.b false]⟩))):T W L (fh (ah p) K):=by
 have hL:f (b,hs)=L:=i.same;refine LK (p:=p) λla lk ti tn vs bx R hg hc pG=>?_;have many:=hg.many;unfold fh;apply ws;intros;refine QJ (p:=p) (by have:=A6 b;show(b.ax.filterMap fR).length<_;omega) (λx hx zf=>?_) (λhn=>?_)
 ·obtain⟨k,hk,hkd⟩:=List.mem_filterMap.1 hx;obtain⟨e1,e2,e3,e4,e5⟩:=rm hkd;have hn:b.named x.id=some k:=by
   obtain⟨n,hn,rfl⟩:=List.getElem_of_mem hk;have:=yS (key:=λx:bW=>x.move.id) hg.names hn;rw[e2];exact(wh (key:=λx:bW=>x.move.id) this).2.2
  apply ws;intros;unfold fh.j1;apply fV<;>intro g
  ·have g:x.due<=b.clock:=g;have fin:=pG [] b hs vs bx _ hg hc (by rw[hL];exact h1 k hk ⟨e4,e5,by omega⟩);apply ws;refine Jf (b:=b) (q:=gp la lk ti tn vs (fF b)) many ?_;rw[hn];simp only[dy,dx];apply ws;exact T.dp fin
  ·have g: ¬x.due<=b.clock:=g;have fin:=pG [] b hs vs bx _ hg hc (by
    rw[hL]
    refine h0 λk' Al ho=>?_
    have Yp:fR k'=some ⟨k'.move.jj+k'.move.cu,k'.move.ay,k'.move.id⟩:=by unfold fR;rw[ai ⟨ho.1,ho.2.1⟩]
    have:=zf _ (List.mem_filterMap.2 ⟨k',Al,Yp⟩)
    have h3:=ho.2.2
    unfold bf at this
    dsimp only at this
    omega)
   apply ws;exact T.dp fin
 ·have fin:=pG [] b hs vs bx _ hg hc (by
   rw[hL]
   refine h0 λk' Al ho=>?_
   have Yp:fR k'=some ⟨k'.move.jj+k'.move.cu,k'.move.ay,k'.move.id⟩:=by unfold fR;rw[ai ⟨ho.1,ho.2.1⟩]
   have:_∈b.ax.filterMap fR:=List.mem_filterMap.2 ⟨k',Al,Yp⟩
   rw[show b.ax.filterMap fR=[] from hn] at this
   cases this)
  apply ws;intros;unfold fh.j1;apply ws;exact T.dp fin
end
def HA{b:aY}{m:aA}(hs:oT b m)(hg:Md.bN m){id:Nat}(h:id∈m.cy.map (·.id)):∃a,a∈m.cy/\a.id=id/\b.find id=some (Md.full m.ax a):=by
 obtain⟨a,ha,rfl⟩:=cw.1 h;refine⟨a,ha,rfl,?_⟩;rw[hs.find];unfold aA.find;rw[oM hg.ids ha];rfl
def FI{b:aY}{m:aA}(hs:oT b m)(hg:Md.bN m){k:bW}(hk:k∈m.ax)(h1:k.fate=1):LA b k:=by
 obtain⟨kd,hd,hc⟩:=hg.u6 k hk;obtain⟨d,Dv,E5,fd⟩:=HA hs hg hd;obtain⟨c,Q',Dw,fc⟩:=HA hs hg hc;have zd:=hg.zero d Dv;have zc:=hg.zero c Q';refine⟨⟨_,fd,?_,?_⟩,⟨_,fc,?_,?_⟩,kd⟩
 ·have:=T' (tN d.id) m.ax k hk;have e:tN d.id k=k.move.aU:=ai ⟨h1,E5.symm⟩;show k.move.aU<=d.dp+S (tN d.id) m.ax;omega
 ·show d.dp+S (tN d.id) m.ax+(d.dq+S (tB d.id) m.ax)<bB;have:=hg.xq d Dv;omega
 ·have:=T' (tP c.id) m.ax k hk;have e:tP c.id k=k.move.aU:=ai ⟨h1,Dw.symm⟩;show k.move.aU<=c.cp+S (tP c.id) m.ax;omega
 ·show c.cp+S (tP c.id) m.ax+(c.cq+S (tC c.id) m.ax)<bB;have:=hg.tX c Q';omega
def Xp{b:aY}{m:aA}(hs:oT b m)(hg:Md.bN m):∀k∈b.ax,has k.move.ak 2->k.fate<=1->k.fate=1/\LA b k:=λk hk h2 hf=>by
 rw[hs.ax] at hk;have:=hg.uJ k hk;have h1:k.fate=1:=by have:=this.2.2.1 h2;omega
 exact⟨h1,FI hs hg hk h1⟩
def Fc(c:Int)(k:bW):bW:=if kY c k then{k with fate:=4} else k
def Cs(c:Int)(l:List bW):Nat:=(l.filter λk=>kY c k).length
def G'{c:Int}:∀{l:List bW} {i:Nat}(hi:i<l.length),kY c l[i]->Cs c (l.set i {l[i] with fate:=4})+1=Cs c l
 |x::l,0,hi,h=>by
  have h2: ¬kY c {x with fate:=4}:=λhh=>aT hh.1 (show ¬(4:Int)=1 by decide);have h:kY c x:=h;show((({x with fate:=4}:bW)::l).filter _).length+1=((x::l).filter _).length;rw[kU (by simpa using h2),kT (by simpa using h),bt]
 |x::l,i+1,hi,h=>by
  have:=G' (c:=c) (l:=l) (i:=i) (by simpa using hi) h;show((x::l.set i _).filter _).length+1=((x::l).filter _).length;by_cases hx:kY c x
  ·rw[kT (by simpa using hx),kT (by simpa using hx),bt,bt];exact congrArg (·+1) this
  ·rw[kU (by simpa using hx),kU (by simpa using hx)];exact this
structure Xu(m m':aA):Prop where
 cy:m'.cy=m.cy
 ay:m'.ay=m.ay
 clock:m'.clock=m.clock
 ax:m'.ax.map (Fc m.clock)=m.ax.map (Fc m.clock)
def Xu.refl(m:aA):Xu m m:=⟨rfl,rfl,rfl,rfl⟩
def Ha{b:aY}{m0 m:aA}(hs:oT b m)(hg:Md.bN m)(hx:Xu m0 m){k:bW}(hk:k∈b.ax)(ho:kY b.clock k):
 b.named k.move.id=some k/\LA b k/\∃m',oT (b.release k.move 0 4) m'/\Md.bN m'/\Xu m0 m'/\Cs m0.clock m'.ax+1=Cs m0.clock m.ax:=by
 rw[hs.ax] at hk;rw[hs.clock] at ho;obtain⟨i,hi,rfl⟩:=List.getElem_of_mem hk;have OI:b.named m.ax[i].move.id=some m.ax[i]:=by
  have:=yS (key:=λx:bW=>x.move.id) hg.names hi;rw[hs.Iy];exact(wh (key:=λx:bW=>x.move.id) this).2.2
 refine⟨OI,FI hs hg hk ho.1,m.dE i 4,hs.release hg hi ho.1 (.inr rfl) 0,hg.dE hi ho.1 (.inr (.inr rfl)),⟨hx.cy,hx.ay,hx.clock,?_⟩,?_⟩
 ·rw[<-hx.ax];rw[hx.clock] at ho;exact(KY hi m0.clock).resolve_right (λhh=>hh ho)
 ·rw[hx.clock] at ho;rw[pM hi];exact G' hi ho
def Hb{b:aY}{m0 m:aA}(hs:oT b m)(hx:Xu m0 m)(h:∀k∈b.ax,¬kY b.clock k):m={m0 with ax:=m0.ax.map (Fc m0.clock)}:=by
 have h2:m.ax.map (Fc m0.clock)=m.ax:=KZ (m:=m) (clock:=m0.clock) λk hk=>by
  have:=h k (by rw[hs.ax];exact hk);rwa[hs.clock,hx.clock] at this
 rw[<-hx.ax,h2];obtain⟨x1,x2,x3,x4⟩:=hx;cases m;cases m0
 simp only at x1 x2 x3;subst x1;subst x2;subst x3;rfl
def uB(m:aA)(now:Int):aA:={m with clock:=if m.clock<now/\now<=1099511627776 then now else m.clock}
def HZ(m:aA)(now:Int):m.time now={uB m now with ax:=(uB m now).ax.map (Fc (uB m now).clock)}:=rfl
def QW{b:aY}{m:aA}(hs:oT b m)(now:Int):oT (Go.Up.tick b now) (uB m now):=⟨hs.aB,hs.ax,by unfold Go.Up.tick uB;simp only[hs.clock],hs.ay⟩
def CT{m:aA}(hg:Md.bN m)(now:Int):Md.bN (uB m now):=⟨hg.zero,hg.ids,hg.ou,hg.names,hg.uJ,hg.u6,hg.some_,hg.xq,hg.tX,hg.vn⟩
def Qg(n:Int):db .i64 .and n 1=n%2:=by
 unfold db;have e1:(BitVec.ofInt aa.bits n&&&BitVec.ofInt aa.bits 1).toNat=(BitVec.ofInt 64 n).toNat%2:=by
  rw[BitVec.toNat_and];show(BitVec.ofInt 64 n).toNat&&&1=_;exact Nat.and_one_is_mod _
 dsimp only;rw[e1];have e2:(((BitVec.ofInt 64 n).toNat%2:Nat):Int)=n%2:=by
  rw[BitVec.toNat_ofInt];omega
 rw[e2];exact aW (by omega)
def Qf{n:Int}(h0:0<=n)(h1:n<=7):db .i64 .andNot n 1=n/2* 2:=by
 have:n=0\/n=1\/n=2\/n=3\/n=4\/n=5\/n=6\/n=7:=by omega
 rcases this with rfl|rfl|rfl|rfl|rfl|rfl|rfl|rfl<;>rfl
section
variable {α:Type} {W:World} {R L:LH} {K:VK} {X:WK} {g:α->LV} {e:Nat} {s:OA} {l:List α}
def nK(W:World)(R:LH)(g:α->LV)(e:Nat)(s:OA)(l:List α):Prop:=
 ∀w,St W w R->∀i x,l[i]?=some x->∃a,s=some a/\xQ w (a.add (i* e)) (g x)
def iN{i:Int}{n:Nat}{K:Addr->WK}[hh:Has R L](hr:nK W R g e s l)(hi:0<=i/\i<l.length)(hn:n=l.length)(h:∀a,s=some a->T W L (K (a.add (i.toNat* e)))):T W L (iX s n i e K):=λw hs=>by
 obtain⟨a,ha,-⟩:=hr w (hh.sub hs) i.toNat _ (aj (by omega));exact⟨a,ha,⟨hi.1,by omega⟩,h a ha w hs⟩
def jH{i:Nat}{x:α}{a:Addr}{K:LV->WK}[hh:Has R L](hr:nK W R g e s l)(hs:s=some a)(hx:l[i]?=some x)(hg:(g x).length=e)(h:T W L (K (g x))):T W L (aI (a.add (i* e)) e K):=λw hw=>by
 obtain⟨a',ha,hh⟩:=hr w (hh.sub hw) i x hx;rw[hs] at ha;cases ha
 exact⟨g x,hg,hh,h w hw⟩
def nK.drop{c i:Nat}(hr:nK W R g e s l)(hi:i<=l.length)(hc:l.length<=c):nK W R g e (ym s c i e) (l.drop i):=λw hw j x hx=>by
 rw[rW] at hx;obtain⟨a,ha,hh⟩:=hr w hw (i+j) x hx;have cf:=(aw.1 hx).1;unfold ym;rw[ag (by omega),ha];refine⟨a.add (i* e),rfl,?_⟩;rw[add_add,<-lO];exact hh
def nK.take{i:Nat}(hr:nK W R g e s l):nK W R g e s (l.take i):=λw hw j x hx=>by
 refine hr w hw j x ?_;rw[rV] at hx;split at hx
 ·exact hx
 ·cases hx
def Da{b:OA}{n c i j e:Nat}{K:OA->Nat->Nat->WK}(hi:i<=j)(hj:j<=c)(h:T W L (K (ym b c i e) (j-i) (c-i))):T W L (rY b n c e (some (i:Int)) (some (j:Int)) K):=by
 unfold rY;refine dD ⟨by omega,by omega⟩ ?_;dsimp only;refine dD ⟨by omega,by omega⟩ ?_;rw[ao,ao];exact h
end
def I1(i:Int):LV:=[.i i]
def Jh(i:Int):(I1 i).length=1:=rfl
section
variable {W:World} {L:LH} {K:VK} {X:WK} {f:HP->LH}
def IN{r N C o n i:Nat}{c:Nat}{v:Int}{l:List Int}[j:ux (some ⟨r,0,none⟩) N C L 1 (l.flatMap I1) f](ho:o+n<=l.length)(hi:i<n)(hn:n<1000000)
 (h:T W (f (own (some ⟨r,0,none⟩) N C 1 ((l.take o++kA n (some (i,v))++l.drop (o+n)).flatMap I1))) (K (.tuple ⟨[]⟩))):T W L (jo (some ⟨r,o,none⟩) n c i v K):=by
 unfold jo;intro w hs;obtain⟨k,hk,e1⟩:=j.at_;have zf:min o l.length=o:=qG (by omega)
 let st:Nat->List Int:=λm=>l.take o++bn m 1++l.drop (o+m)
 have uX:∀m,m<=n->(st m).length=l.length:=λm hm=>by simp only[st,au,aD,zf,mO,aS];omega
 refine⟨λvs w=>∃m:Nat,m<=n/\vs=[.i (n:Int),.i (m:Int)]/\St W w (f (own (some ⟨r,0,none⟩) N C 1 ((st m).flatMap I1))),λvs _=>match vs with|[_,.int _ d]=>n-d.toNat|_=>0,⟨0,aE _,rfl,?_⟩,?_⟩
 ·have:st 0=l:=by simp[st]
  rw[this,e1,nd hk];exact hs
 rintro n3 n4 w2 ⟨m,hm,e,gX⟩;cases e
 rw[e1] at gX;have rq:(L.set k (own (some ⟨r,0,none⟩) N C 1 ((st m).flatMap I1)))[k]?=some (own (some ⟨r,0,none⟩) N C 1 ((st m).flatMap I1)):=jM hk;have one:∀v∈I1 1,v.oneCell'=true:=λv hv=>by simp[I1] at hv;subst hv;rfl
 by_cases cf:m<n
 ·rw[av (by omega)];rw[kG];refine⟨_,rfl,⟨by omega,by omega⟩,?_⟩;rw[gN,ao,lN];refine Bw gX rq (by rw[A4 Jh,uX m hm];omega) rfl λw3 vQ=>?_;have e5:=nL m;rw[e5];refine⟨⟨m+1,cf,rfl,?_⟩,by show n-((m+1:Nat):Int).toNat<n-(m:Int).toNat;omega⟩;rw[e1];rw[jk] at vQ;have e6:((st m).flatMap I1).set (o+m) (Value.int aa 1)=(st (m+1)).flatMap I1:=by
   have:=BY (g:=I1) (l:=st m) (o:=o+m) (y:=1) (j:=0) (v:=.i 1) Jh (aj (by rw[uX m hm];omega)) rfl (by decide);have e7:(st m).set (o+m) 1=st (m+1):=by
    have hd:l.drop (o+m)=l[o+m]'(by omega)::l.drop (o+m+1):=gO (by omega);have hAB:(l.take o++bn m (1:Int)).length=o+m:=by rw[au,aD,mO,zf]
    simp only[st];rw[hd,List.set_append_right _ _ (by omega),hAB,lu,List.set_cons_zero,List.replicate_succ'];simp[Nat.add_assoc]
   rw[<-e7,<-this,lN,dZ]
  rw[e6] at vQ;exact vQ
 ·have hmn:m=n:=by omega
  subst hmn;rw[aq (by omega),dY];refine⟨_,rfl,⟨by omega,by omega⟩,?_⟩;rw[gN,ao,lN];refine Bw gX rq (by rw[A4 Jh,uX m hm];omega) rfl λw3 vQ=>?_;refine h w3 ?_;rw[e1];rw[jk] at vQ;have e6:((st m).flatMap I1).set (o+i) (Value.int aa v)=(l.take o++kA m (some (i,v))++l.drop (o+m)).flatMap I1:=by
   have:=BY (g:=I1) (l:=st m) (o:=o+i) (y:=v) (j:=0) (v:=.i v) Jh (aj (by rw[uX m hm];omega)) rfl (by decide);have e7:(st m).set (o+i) v=l.take o++kA m (some (i,v))++l.drop (o+m):=by
    simp only[st,kA];rw[aH,List.set_append_right _ _ (by rw[aD,zf];omega),List.set_append_left _ _ (by rw[aD,zf,mO];omega),<-aH]
    congr 3
    rw[aD,zf];omega
   rw[<-e7,<-this,lN,dZ]
  rw[e6] at vQ;exact vQ
end
section
variable {α σ:Type}
def xv{linked:α->Bool}:∀{l:List α} {i:Nat} {x:α},(∀j y,j<i->l[j]?=some y->linked y=true)->l[i]?=some x->linked x=false->cn linked l=(i+1,true)
 |[],i,x,_,hx,_=>by simp at hx
 |y::l,0,x,_,hx,hn=>by simp at hx;subst hx;unfold cn;rw[ag (by simp[hn])]
 |y::l,i+1,x,h,hx,hn=>by
  unfold cn;rw[ai (h 0 y (by omega) rfl),xv (l:=l) (i:=i) (λj z hj hz=>h (j+1) z (by omega) (by simpa using hz)) (by simpa using hx) hn]
def vt{linked:α->Bool}:∀{l:List α},(∀x∈l,linked x=true)->cn linked l=(l.length,false)
 |[],_=>rfl
 |y::l,h=>by unfold cn;rw[ai (h y (by simp)),vt λx hx=>h x (by simp[hx])];rfl
def uM{linked:α->Bool}:∀(l:List α),(cn linked l).1<=l.length
 |[]=>aG _
 |y::l=>by unfold cn;split<;>simp;exact uM l
def CO{linked:α->Bool}(x:α)(l:List α):0<(cn linked (x::l)).1:=by unfold cn;split<;>simp
def xu{linked:α->Bool}:∀{l:List α},(cn linked l).2=false->(cn linked l).1=l.length
 |[],_=>rfl
 |y::l,h=>by
  unfold cn at h⊢;split at h
  ·rename_i hy;rw[ai hy];show _+1=_;rw[xu h];rfl
  ·cases h
def sy{f:σ->α->Int×σ}:∀(l m:List α)(s s':σ)(i:Nat),ia f s l i=(none,s')->ia f s (l++m) i=ia f s' m (i+l.length)
 |[],m,s,s',i,h=>by cases h;rfl
 |x::l,m,s,s',i,h=>by
  unfold ia at h;split at h
  ·cases h
  ·rename_i h0;rw[kV];show ia f s (x::(l++m)) i=_;rw[ia,ag h0,sy l m _ _ _ h,bt,Nat.add_right_comm,Nat.add_assoc]
def kv(n:Nat)(e:Option (Nat×Int)):(kA n e).length=n:=by cases e<;>simp[kA]
end
section
variable {W:World} {L R:LH} {K:VK} {X:WK} {p:Nat} {b:aY} {hs:List C} {f:aY×List C->LH}
def Vj[i:Lc (cO p) L (b,hs) f]{a:bC}(ou:32<=b.aB.length)(h:T W L (K (.i 6))):T W L (mq (ah p) (aK a) K):=by
 have hL:f (b,hs)=L:=i.same;refine LK (p:=p) λla lk ti tn vs bx R hg hc pG=>?_;have fin:=pG [] b hs vs bx _ hg hc (by rw[hL];exact h);unfold mq;apply ws;intros;refine NG (l:=la) ?_;apply ws;refine mR (by show decide (((b.aB.length:Nat):Int)>=32)=true;simp;omega) ?_;exact T.dp fin
def N7[i:Lc (cO p) L (b,hs) f]{b0:aY}{jW:List C}{n:Nat}(hg:fk b0)(hx:Ext (fF b0) jW (fF b) hs n)(hl:hs.length<1000000)(h:T W (f (b0,jW)) (K (.tuple ⟨[]⟩))):T W L (fC (ah p) (jW.length:Int) K):=λw hw=>by
 obtain⟨k,hk,e1⟩:=i.at_;have h1:=hw.focus hk;obtain⟨-,h2⟩:=h1.and;refine(show T W (cP p (fF b,hs)::L.eraseIdx k) _ from ?_) w h2;unfold fC;apply ws;refine aa5 (p:=p) hl ?_;rw[hx.back];apply ws;intro w2 hw2;refine h w2 ?_;rw[e1];exact St.rA (A:=cO p (b,hs)) (St.and_intro hg hw2) hk
def Nd{a:bC}(h:tI a=0):0<=a.ak/\a.ak<=7/\a.dp=0/\a.dq=0/\a.cp=0/\a.cq=0/\a.ay=0/\(1<=a.aZ/\a.aZ<=4294967295)/\1<=a.code/\a.code<=65535:=by
 unfold tI at h
 repeat' (first|(split at h;first|(exact aT h (by decide))|skip)|skip)
 omega
def W8(G:qF W){a:bC}(ha:wD a)[i:Lc (cO p) L (b,hs) f](hl:hs.length<900000)
 (h:∀ft,Ext (fF b) hs (fF (b.make a).2) ft 8->T W (f ((b.make a).2,ft)) (K (.i (b.make a).1))):T W L (lG (ah p) (aK a) K):=by
 have hL:f (b,hs)=L:=i.same;refine qm (p:=p) λhg=>?_;unfold lG
 repeat' first|apply ws;intros|apply wb|refine T2 G ha ?_
 have stay:∀r:Int,b.make a=(r,b)->T W L (K (.int .i64 r)):=λr e=>by
  rw[e] at h;have:=h hs (Ext.refl _ _ _);rw[hL] at this;exact this
 apply dh<;>intro g1
 ·have g1:tI a≠0:=by simpa using g1
  have:=stay (tI a) (by unfold aY.make;rw[ai g1]);exact T.dp this
 have g1:tI a=0:=by simpa using g1
 have ck:=Nd g1
 repeat' first|apply ws;intros|apply wb|refine wB (p:=p) ?_
 cases hf:b.find a.id with
 |some x=>
  simp only[dy,dx];obtain⟨gx,hxi⟩:=wq hg hf
  repeat' first|apply ws|apply wb|refine T3 ⟨ck.1,by omega⟩ ⟨gx.ak.1,by have:=gx.ak.2;omega⟩ ?_
  have:=stay (tJ a x) (by unfold aY.make;rw[ag (by omega),hf]);exact T.dp this
 |none=>
  simp only[eQ,gw];apply ws;rw[Qf ck.1 ck.2.1];by_cases ou:b.aB.length<32
  ·have hga:AG {({a with ak:=a.ak/2* 2}:bC) with ay:=b.ay+1}:=by
    have uX:=hg.ay;have many:=hg.many;refine⟨⟨ha.id,ha.dp,ha.dq,ha.cp,ha.cq,?_,?_,?_,?_⟩,⟨⟨by show 0<=a.aZ;omega,by show a.aZ<=_;omega⟩,⟨by show 0<=a.code;omega,by show a.code<=_;omega⟩,by show 0<=a.ak/2* 2;omega,by show a.ak/2* 2<=_;omega⟩,⟨by show 0<=a.ak/2* 2;omega,by show a.ak/2* 2<_;omega⟩,by show 0<=b.ay+1;omega,by show b.ay+1<_;omega⟩
    ·show uU a.aZ;unfold uU;omega
    ·show uU a.code;unfold uU;omega
    ·show uU (a.ak/2* 2);unfold uU;omega
    ·show uU (b.ay+1);unfold uU;omega
   refine Vi (p:=p) (a:={a with ak:=a.ak/2* 2}) hf ou hga hl λft hx=>?_;apply ws;have e:b.make a=(0,b.more {a with ak:=a.ak/2* 2}):=by
    unfold aY.make aY.more;rw[ag (by omega),hf];dsimp only;rw[ag (by omega)]
   rw[e] at h;have:=h ft (hx.mono (by omega));exact T.dp this
  ·refine Vj (p:=p) (a:={a with ak:=a.ak/2* 2}) (by omega) ?_;apply ws;have:=stay 35 (by unfold aY.make;rw[ag (by omega),hf];dsimp only;rw[ai (by omega)]);exact T.dp this
end
def Is(b:aY):Prop:=∃m,oT b m/\Md.bN m
def Is.make{b:aY}(h:Is b)(a:bC):Is (b.make a).2:=by obtain⟨m,hs,hg⟩:=h;exact⟨_,(hs.make hg).2⟩
def Is.qL{b:aY}(h:Is b)(t:cE):Is (b.qL t).2:=by obtain⟨m,hs,hg⟩:=h;exact⟨_,(hs.qL hg).2⟩
def Hj(n:Int):(db .i64 .and n 1!=0)=decide (n%2=1):=by
 rw[Qg,bV];simp only[fy,ne_eq,decide_eq_true_eq];omega
def BN(t:cE):(aL t).length=16:=rfl
def Ai(a:bC):Bool:=decide (a.ak%2=1)
def Ah(t:cE):Bool:=decide (t.ak%2=1)
section
variable {α σ:Type}
def Bz{f:σ->α->Int×σ}{lk:α->Bool}{n:Nat}{s:σ}{l:List α}(hl:l≠[]):
 hG f lk (n+1) s l=if(cn lk l).2=false then(kA (cn lk l).1 (some ((cn lk l).1-1,2)),s)
  else match ia f s (l.take (cn lk l).1) 0 with
  |(none,s')=>(kA (cn lk l).1 none++(hG f lk n s' (l.drop (cn lk l).1)).1,(hG f lk n s' (l.drop (cn lk l).1)).2)
  |(some e,_)=>(kA (cn lk l).1 (some e)++(hG f lk n s (l.drop (cn lk l).1)).1,(hG f lk n s (l.drop (cn lk l).1)).2):=by
 cases l with
 |nil=>exact aT rfl hl
 |cons x l=>
  rw[hG]<;>congr 1
def vW{f:σ->α->Int×σ}{lk:α->Bool}(n:Nat)(s:σ):hG f lk n s []=([],s):=by cases n<;>rfl
end
section
variable {W:World} {L R:LH} {K:VK} {X:WK} {p:Nat} {b:aY} {hs:List C}
def WN{s:OA}{c nn:Nat}{l:List bC}[hh:Has R L](hr:nK W R aK 14 s l)(LP:nn=l.length)(hl:l.length<1000000)
 (h:T W L (K (.tuple ⟨[.i ((cn Ai l).1:Int),.b (cn Ai l).2]⟩))):T W L (ma s nn c (.func (.func N.gK) ⟨[]⟩ ⟨[]⟩) K):=by
 subst LP;unfold ma;intro w hs;refine⟨λvs w=>∃i:Nat,i<=l.length/\(∀j y,j<i->l[j]?=some y->Ai y=true)/\vs=[.i 0,.b false,.l s l.length c,.i (l.length:Int),.i (i:Int)]/\St W w L,
  λvs _=>match vs with|[_,_,_,_,.int _ d]=>l.length-d.toNat|_=>0,⟨0,aE _,λj y hj=>by omega,rfl,hs⟩,?_⟩
 rintro n1 b1 qI oW re n2 n3 w2 ⟨i,hi,gh,e,gX⟩;cases e
 refine T.at ?_ gX;have e5:=nL i;apply fV<;>intro g1
 ·have cf:i<l.length:=by omega
  have gx:=aj cf;generalize l[i]=x at gx;refine iN hr ⟨by omega,by omega⟩ rfl λa ha=>?_;rw[ao];refine jH hr ha gx (jx x) ?_;apply ws;intros;show T W _ (gK (aK x) _);unfold gK;apply ws;intros;rw[Hj];rw[e5];apply dh<;>intro g2
  ·have g2:Ai x=false:=by simpa [Ai] using g2
   rw[xv gh gx g2] at h;exact T.dp h
  ·have g2:Ai x=true:=by simpa [Ai] using g2
   refine T.drop (T.drop ?_);refine λw3 h3=>⟨⟨i+1,cf,λj y hj hy=>?_,rfl,h3⟩,by show l.length-((i+1:Nat):Int).toNat<l.length-(i:Int).toNat;omega⟩;by_cases KK:j=i
   ·subst KK;rw[gx] at hy;cases hy;exact g2
   ·exact gh j y (by omega) hy
 ·have iM:i=l.length:=by omega
  subst iM;rw[vt λx hx=>by obtain⟨j,hj⟩:=qj hx;exact gh j x (aw.1 hj).1 hj] at h;exact h
def ZA(G:qF W){s:OA}{c c2 nn:Nat}{l:List bC}{r q o:Nat}{res:List Int}(hr:nK W R aK 14 s l)(LP:nn=l.length)(ix:∀x∈l,wD x)(hP:Is b)(hl:hs.length+8* l.length<800000)
 (ho:o+l.length<=res.length)(KC:0<l.length)
 (h0:∀ft b',ia aY.make b l 0=(none,b')->Is b'->ft.length<=hs.length+8* l.length->T W (cO p (b',ft)::own (ah r) q q 1 (res.flatMap I1)::R) (K (.tuple ⟨[]⟩)))
 (h1:∀e b',ia aY.make b l 0=(some e,b')->e.1<l.length->T W (cO p (b,hs)::own (ah r) q q 1 ((res.take o++kA l.length (some e)++res.drop (o+l.length)).flatMap I1)::R) (K (.tuple ⟨[]⟩))):
 T W (cO p (b,hs)::own (ah r) q q 1 (res.flatMap I1)::R) (mJ (ah p) s nn c (some ⟨r,o,none⟩) nn c2 (.func (.func N.lG) ⟨[]⟩ ⟨[]⟩) K):=by
 subst LP;unfold mJ;refine qm (p:=p) λhg=>?_;refine N4 (p:=p) ?_;apply ws;intro w jW;refine⟨λvs w=>∃(i:Nat)(b':aY)(ft:List C),i<=l.length/\ia aY.make b (l.take i) 0=(none,b')/\Is b'/\Ext (fF b) hs (fF b') ft (8* i)/\vs=[.i (hs.length:Int),.l s l.length c,.i (l.length:Int),.i (i:Int)]/\
  St W w (cO p (b',ft)::own (ah r) q q 1 (res.flatMap I1)::R),
  λvs _=>match vs with|[_,_,_,.int _ d]=>l.length-d.toNat|_=>0,⟨0,b,hs,aE _,rfl,hP,Ext.refl _ _ _,rfl,jW⟩,?_⟩
 rintro n2 ta qQ sO n3 n4 w2 ⟨i,b',ft,hi,OO,L0,hx,e,gX⟩;cases e
 refine T.at ?_ gX;have e5:=nL i;have hxl:=hx.len;apply fV<;>intro g1
 ·have cf:i<l.length:=by omega
  have gx:=aj cf;have nM:l[i]∈l:=bR cf;have uH:l=l.take i++l[i]::l.drop (i+1):=by rw[<-gO cf,dj]
  have xK:l.take (i+1)=l.take i++[l[i]]:=by rw[a8,gx];rfl
  generalize l[i]=x at gx nM uH xK;have IE:=ix x nM;refine iN hr ⟨by omega,by omega⟩ rfl λa ha=>?_;rw[ao];refine jH hr ha gx (jx x) ?_;apply ws;intros;show T W _ (lG (ah p) (aK x) _);refine W8 (p:=p) G IE (by omega) λZ1 SN=>?_;have aaf:ia aY.make b l 0=ia aY.make b' (x::l.drop (i+1)) (0+(l.take i).length):=by
   conv=>lhs;rw[uH]
   exact sy _ _ _ _ _ OO
  have hti:(l.take i).length=i:=by rw[aD];omega
  apply ws;apply dh<;>intro g2
  ·have g2:(b'.make x).1≠0:=by simpa using g2
   refine T.drop ?_;have hx3:=SN.len;refine N7 (p:=p) hg (hx.trans SN) (by omega) ?_;apply ws;refine IN (r:=r) (N:=q) (C:=q) ho cf (by omega) ?_;apply ws;refine h1 (i,(b'.make x).1) b' ?_ cf;rw[aaf,hti,ia,ai g2,aC]
  ·have g2:(b'.make x).1=0:=by simpa using g2
   rw[e5];refine T.drop ?_;refine λw3 h3=>⟨⟨i+1,_,Z1,cf,?_,L0.make x,(hx.trans SN).mono (by omega),rfl,h3⟩,by show l.length-((i+1:Nat):Int).toNat<l.length-(i:Int).toNat;omega⟩;rw[xK,sy _ _ _ _ _ OO,ia,ag (by omega)]
   rfl
 ·have iM:i=l.length:=by omega
  subst iM;rw[aR] at OO;exact h0 ft b' OO L0 (by omega)
def Zn(G:qF W){s:OA}{c:Nat}{l:List bC}(hr:nK W R aK 14 s l)(hc:l.length<=c)(ix:∀x∈l,wD x)(hP:Is b)(Ho:l.length<=10000)(hl:hs.length+8* l.length<800000)
 (h:∀r ft,ft.length<=hs.length+8* l.length->Is (hG aY.make Ai l.length b l).2->(hG aY.make Ai l.length b l).1.length=l.length->
  T W (cO p ((hG aY.make Ai l.length b l).2,ft)::own (some ⟨r,0,none⟩) l.length l.length 1 ((hG aY.make Ai l.length b l).1.flatMap I1)::R) (K (.l (some ⟨r,0,none⟩) l.length l.length))):
 T W (cO p (b,hs)::R) (rP (some ⟨p,0,none⟩) s l.length c K):=by
 unfold rP pn;refine H5 ⟨by omega,by omega,by omega,by omega⟩ λr=>?_;rw[ao,show(Builtin.zeroCells ⟨[Value.int aa 0]⟩ l.length).toList=(bn l.length (0:Int)).flatMap I1 from ru (g:=I1) (z:=0) rfl _];show T W (own (some ⟨r,0,none⟩) l.length l.length 1 _::cO p (b,hs)::R) _;refine T.perm (M:=own (some ⟨r,0,none⟩) l.length l.length 1 _::cO p (b,hs)::R) (L:=cO p (b,hs)::own (some ⟨r,0,none⟩) l.length l.length 1 _::R) ?_ (bU.swap _ _ _);intro w jW;refine⟨λvs w=>∃(at_ fuel:Nat)(b':aY)(ft:List C)(done:List Int),at_<=l.length/\done.length=at_/\l.length<=fuel+at_/\
                                                                        hG aY.make Ai l.length b l=(done++(hG aY.make Ai fuel b' (l.drop at_)).1,(hG aY.make Ai fuel b' (l.drop at_)).2)/\Is b'/\ft.length<=hs.length+8* at_/\
                                                                        vs=[.l none 0 0,.l (some ⟨r,0,none⟩) l.length l.length,.i (at_:Int)]/\
                                                                        St W w (cO p (b',ft)::own (some ⟨r,0,none⟩) l.length l.length 1 ((done++bn (l.length-at_) 0).flatMap I1)::R),
  λvs _=>match vs with|[_,_,.int _ d]=>l.length-d.toNat|_=>0,⟨0,l.length,b,hs,[],aE _,rfl,by omega,by simp,hP,by omega,rfl,jW⟩,?_⟩
 rintro ta qQ sO xG vT wO n1 w2 ⟨at_,fuel,b',ft,done,Bp,zv,Q9,o7,L0,X',e,gX⟩;cases e
 refine T.at ?_ gX;apply fV<;>intro g1
 ·have cf:at_<l.length:=by omega
  have kd:l.drop at_≠[]:=λhh=>by have:=congrArg List.length hh;rw[aS] at this;simp at this;omega
  have wk:(l.drop at_).length=l.length-at_:=aS;refine yi (by omega) ?_;have UF:=hr.drop (i:=at_) (c:=c) (by omega) hc;refine WN UF wk.symm (by omega) ?_;apply ws;obtain⟨n,hn⟩:∃n,(cn Ai (l.drop at_)).1=n:=⟨_,rfl⟩;have ad1:n<=l.length-at_:=by rw[<-hn,<-wk];exact uM _
  have ab3:0<n:=by
   rw[<-hn];cases hd:l.drop at_ with
   |nil=>exact aT hd kd
   |cons x l'=>exact CO x l'
  rw[hn];have e6:aa.wrap ((at_:Int)+(n:Int))=((at_+n:Nat):Int):=by rw[aW (by omega)];omega
  rw[e6];refine Da (by omega) (by omega) ?_;have ea:ym (some ⟨r,0,none⟩) l.length at_ 1=some ⟨r,at_,none⟩:=by unfold ym;rw[ag (by omega)];show some (Addr.add ⟨r,0,none⟩ (at_* 1))=_;rw[gN,aC,lN]
  rw[ea,Nat.add_sub_cancel_left];obtain⟨fuel,rfl⟩:∃m,fuel=m+1:=⟨fuel-1,by omega⟩;have gi:=Bz (f:=aY.make) (lk:=Ai) (n:=fuel) (s:=b') kd;have hdd:(l.drop at_).drop n=l.drop (at_+n):=jz;have Gr:(done++bn (l.length-at_) (0:Int)).length=l.length:=by rw[au,mO];omega
  have E1:(done++bn (l.length-at_) (0:Int)).drop (at_+n)=bn (l.length-(at_+n)) 0:=by
   rw[List.drop_append,ga (by omega),de,List.drop_replicate];congr 1;omega
  have qV:(done++bn (l.length-at_) (0:Int)).take at_=done:=by rw[<-zv,Cc]
  apply dh<;>intro g2
  ·have g2:(cn Ai (l.drop at_)).2=false:=by simpa using g2
   have LP:n=l.length-at_:=by rw[<-hn,xu g2,wk]
   have e7:aa.wrap ((n:Int) -1)=((n-1:Nat):Int):=by rw[aW (by omega)];omega
   rw[e7];refine IN (r:=r) (N:=l.length) (C:=l.length) (o:=at_) (n:=n) (by rw[Gr];omega) (by omega) (by omega) ?_;apply ws;rw[qV,E1];refine λw3 h3=>⟨⟨at_+n,fuel,b',ft,done++kA n (some (n-1,2)),by omega,by rw[au,kv];omega,by omega,?_,L0,by omega,rfl,h3⟩,by show l.length-((at_+n:Nat):Int).toNat<l.length-(at_:Int).toNat;omega⟩;rw[ai g2,hn] at gi;rw[o7,gi,show l.drop (at_+n)=[] from ga (by omega),vW];simp
  ·have g2:(cn Ai (l.drop at_)).2=true:=by simpa using g2
   rw[ag (by rw[g2];decide),hn,hdd] at gi;refine Da (by omega) (by omega) ?_;rw[Nat.add_sub_cancel_left];have C3:((l.drop at_).take n).length=n:=by rw[aD];omega
   have hr3:=UF.take (i:=n);refine ZA (p:=p) G (l:=(l.drop at_).take n) (o:=at_) hr3 C3.symm (λx hx=>ix x (List.mem_of_mem_drop (List.mem_of_mem_take hx))) L0 (by omega) (by rw[Gr];omega) (by omega) (λvQ b3 hd hP3 UG=>?_) (λe b3 hd he=>?_)
   ·apply ws;rw[C3] at UG;rw[hd] at gi;refine λw3 h3=>⟨⟨at_+n,fuel,b3,vQ,done++kA n none,by omega,by rw[au,kv];omega,by omega,?_,hP3,by omega,rfl,?_⟩,by show l.length-((at_+n:Nat):Int).toNat<l.length-(at_:Int).toNat;omega⟩
    ·rw[o7,gi];simp
    ·have e8:done++bn (l.length-at_) (0:Int)=done++kA n none++bn (l.length-(at_+n)) 0:=by
      rw[aH];congr 1;show _=bn n 0++_;rw[List.replicate_append_replicate];congr 1;omega
     rw[<-e8];exact h3
   ·apply ws;rw[C3];rw[hd] at gi;rw[qV,E1];refine λw3 h3=>⟨⟨at_+n,fuel,b',ft,done++kA n (some e),by omega,by rw[au,kv];omega,by omega,?_,L0,by omega,rfl,h3⟩,by show l.length-((at_+n:Nat):Int).toNat<l.length-(at_:Int).toNat;omega⟩;rw[o7,gi];simp
 ·have iM:at_=l.length:=by omega
  subst iM;rw[List.drop_length,vW] at o7;simp only[bI] at o7;rw[o7] at h;have:=h r ft (by omega) L0 zv;rw[lu,List.replicate_zero,bI];apply ws;exact this
end
def TOk(t:cE):Prop:=yJ t/\j0 t
section
variable {W:World} {L R:LH} {K:VK} {X:WK} {p:Nat} {b:aY} {hs:List C}
def WM{s:OA}{c nn:Nat}{l:List cE}[hh:Has R L](hr:nK W R aL 16 s l)(LP:nn=l.length)(hl:l.length<1000000)
 (h:T W L (K (.tuple ⟨[.i ((cn Ah l).1:Int),.b (cn Ah l).2]⟩))):T W L (k9 s nn c (.func (.func N.fZ) ⟨[]⟩ ⟨[]⟩) K):=by
 subst LP;unfold k9;intro w hs;refine⟨λvs w=>∃i:Nat,i<=l.length/\(∀j y,j<i->l[j]?=some y->Ah y=true)/\vs=[.i 0,.b false,.l s l.length c,.i (l.length:Int),.i (i:Int)]/\St W w L,
  λvs _=>match vs with|[_,_,_,_,.int _ d]=>l.length-d.toNat|_=>0,⟨0,aE _,λj y hj=>by omega,rfl,hs⟩,?_⟩
 rintro n1 b1 qI oW re n2 n3 w2 ⟨i,hi,gh,e,gX⟩;cases e
 refine T.at ?_ gX;have e5:=nL i;apply fV<;>intro g1
 ·have cf:i<l.length:=by omega
  have gx:=aj cf;generalize l[i]=x at gx;refine iN hr ⟨by omega,by omega⟩ rfl λa ha=>?_;rw[ao];refine jH hr ha gx (BN x) ?_;apply ws;intros;show T W _ (fZ (aL x) _);unfold fZ;apply ws;intros;rw[Hj];rw[e5];apply dh<;>intro g2
  ·have g2:Ah x=false:=by simpa [Ah] using g2
   rw[xv gh gx g2] at h;exact T.dp h
  ·have g2:Ah x=true:=by simpa [Ah] using g2
   refine T.drop (T.drop ?_);refine λw3 h3=>⟨⟨i+1,cf,λj y hj hy=>?_,rfl,h3⟩,by show l.length-((i+1:Nat):Int).toNat<l.length-(i:Int).toNat;omega⟩;by_cases KK:j=i
   ·subst KK;rw[gx] at hy;cases hy;exact g2
   ·exact gh j y (by omega) hy
 ·have iM:i=l.length:=by omega
  subst iM;rw[vt λx hx=>by obtain⟨j,hj⟩:=qj hx;exact gh j x (aw.1 hj).1 hj] at h;exact h
def Zz(G:qF W){s:OA}{c c2 nn:Nat}{l:List cE}{r q o:Nat}{res:List Int}(hr:nK W R aL 16 s l)(LP:nn=l.length)(ix:∀x∈l,TOk x)(hP:Is b)(hl:hs.length+8* l.length<800000)
 (ho:o+l.length<=res.length)(KC:0<l.length)
 (h0:∀ft b',ia aY.qL b l 0=(none,b')->Is b'->ft.length<=hs.length+8* l.length->T W (cO p (b',ft)::own (ah r) q q 1 (res.flatMap I1)::R) (K (.tuple ⟨[]⟩)))
 (h1:∀e b',ia aY.qL b l 0=(some e,b')->e.1<l.length->T W (cO p (b,hs)::own (ah r) q q 1 ((res.take o++kA l.length (some e)++res.drop (o+l.length)).flatMap I1)::R) (K (.tuple ⟨[]⟩))):
 T W (cO p (b,hs)::own (ah r) q q 1 (res.flatMap I1)::R) (l9 (ah p) s nn c (some ⟨r,o,none⟩) nn c2 (.func (.func N.nO) ⟨[]⟩ ⟨[]⟩) K):=by
 subst LP;unfold l9;refine qm (p:=p) λhg=>?_;refine N4 (p:=p) ?_;apply ws;intro w jW;refine⟨λvs w=>∃(i:Nat)(b':aY)(ft:List C),i<=l.length/\ia aY.qL b (l.take i) 0=(none,b')/\Is b'/\Ext (fF b) hs (fF b') ft (8* i)/\vs=[.i (hs.length:Int),.l s l.length c,.i (l.length:Int),.i (i:Int)]/\
  St W w (cO p (b',ft)::own (ah r) q q 1 (res.flatMap I1)::R),
  λvs _=>match vs with|[_,_,_,.int _ d]=>l.length-d.toNat|_=>0,⟨0,b,hs,aE _,rfl,hP,Ext.refl _ _ _,rfl,jW⟩,?_⟩
 rintro n2 ta qQ sO n3 n4 w2 ⟨i,b',ft,hi,OO,L0,hx,e,gX⟩;cases e
 refine T.at ?_ gX;have e5:=nL i;have hxl:=hx.len;apply fV<;>intro g1
 ·have cf:i<l.length:=by omega
  have gx:=aj cf;have nM:l[i]∈l:=bR cf;have uH:l=l.take i++l[i]::l.drop (i+1):=by rw[<-gO cf,dj]
  have xK:l.take (i+1)=l.take i++[l[i]]:=by rw[a8,gx];rfl
  generalize l[i]=x at gx nM uH xK;have IE:=ix x nM;refine iN hr ⟨by omega,by omega⟩ rfl λa ha=>?_;rw[ao];refine jH hr ha gx (BN x) ?_;apply ws;intros;show T W _ (nO (ah p) (aL x) _);refine acv (p:=p) G IE.1 IE.2 (by obtain⟨m,h3,h4⟩:=L0;exact Xp h3 h4) (by omega) λZ1 SN=>?_;have aaf:ia aY.qL b l 0=ia aY.qL b' (x::l.drop (i+1)) (0+(l.take i).length):=by
   conv=>lhs;rw[uH]
   exact sy _ _ _ _ _ OO
  have hti:(l.take i).length=i:=by rw[aD];omega
  apply ws;apply dh<;>intro g2
  ·have g2:(b'.qL x).1≠0:=by simpa using g2
   refine T.drop ?_;have hx3:=SN.len;refine N7 (p:=p) hg (hx.trans SN) (by omega) ?_;apply ws;refine IN (r:=r) (N:=q) (C:=q) ho cf (by omega) ?_;apply ws;refine h1 (i,(b'.qL x).1) b' ?_ cf;rw[aaf,hti,ia,ai g2,aC]
  ·have g2:(b'.qL x).1=0:=by simpa using g2
   rw[e5];refine T.drop ?_;refine λw3 h3=>⟨⟨i+1,_,Z1,cf,?_,L0.qL x,(hx.trans SN).mono (by omega),rfl,h3⟩,by show l.length-((i+1:Nat):Int).toNat<l.length-(i:Int).toNat;omega⟩;rw[xK,sy _ _ _ _ _ OO,ia,ag (by omega)]
   rfl
 ·have iM:i=l.length:=by omega
  subst iM;rw[aR] at OO;exact h0 ft b' OO L0 (by omega)
def Zm(G:qF W){s:OA}{c:Nat}{l:List cE}(hr:nK W R aL 16 s l)(hc:l.length<=c)(ix:∀x∈l,TOk x)(hP:Is b)(Ho:l.length<=10000)(hl:hs.length+8* l.length<800000)
 (h:∀r ft,ft.length<=hs.length+8* l.length->Is (hG aY.qL Ah l.length b l).2->(hG aY.qL Ah l.length b l).1.length=l.length->
  T W (cO p ((hG aY.qL Ah l.length b l).2,ft)::own (some ⟨r,0,none⟩) l.length l.length 1 ((hG aY.qL Ah l.length b l).1.flatMap I1)::R) (K (.l (some ⟨r,0,none⟩) l.length l.length))):
 T W (cO p (b,hs)::R) (qM (some ⟨p,0,none⟩) s l.length c K):=by
 unfold qM oO;refine H5 ⟨by omega,by omega,by omega,by omega⟩ λr=>?_;rw[ao,show(Builtin.zeroCells ⟨[Value.int aa 0]⟩ l.length).toList=(bn l.length (0:Int)).flatMap I1 from ru (g:=I1) (z:=0) rfl _];show T W (own (some ⟨r,0,none⟩) l.length l.length 1 _::cO p (b,hs)::R) _;refine T.perm (M:=own (some ⟨r,0,none⟩) l.length l.length 1 _::cO p (b,hs)::R) (L:=cO p (b,hs)::own (some ⟨r,0,none⟩) l.length l.length 1 _::R) ?_ (bU.swap _ _ _);intro w jW;refine⟨λvs w=>∃(at_ fuel:Nat)(b':aY)(ft:List C)(done:List Int),at_<=l.length/\done.length=at_/\l.length<=fuel+at_/\
                                                                        hG aY.qL Ah l.length b l=(done++(hG aY.qL Ah fuel b' (l.drop at_)).1,(hG aY.qL Ah fuel b' (l.drop at_)).2)/\Is b'/\ft.length<=hs.length+8* at_/\
                                                                        vs=[.l none 0 0,.l (some ⟨r,0,none⟩) l.length l.length,.i (at_:Int)]/\
                                                                        St W w (cO p (b',ft)::own (some ⟨r,0,none⟩) l.length l.length 1 ((done++bn (l.length-at_) 0).flatMap I1)::R),
  λvs _=>match vs with|[_,_,.int _ d]=>l.length-d.toNat|_=>0,⟨0,l.length,b,hs,[],aE _,rfl,by omega,by simp,hP,by omega,rfl,jW⟩,?_⟩
 rintro ta qQ sO xG vT wO n1 w2 ⟨at_,fuel,b',ft,done,Bp,zv,Q9,o7,L0,X',e,gX⟩;cases e
 refine T.at ?_ gX;apply fV<;>intro g1
 ·have cf:at_<l.length:=by omega
  have kd:l.drop at_≠[]:=λhh=>by have:=congrArg List.length hh;rw[aS] at this;simp at this;omega
  have wk:(l.drop at_).length=l.length-at_:=aS;refine yi (by omega) ?_;have UF:=hr.drop (i:=at_) (c:=c) (by omega) hc;refine WM UF wk.symm (by omega) ?_;apply ws;obtain⟨n,hn⟩:∃n,(cn Ah (l.drop at_)).1=n:=⟨_,rfl⟩;have ad1:n<=l.length-at_:=by rw[<-hn,<-wk];exact uM _
  have ab3:0<n:=by
   rw[<-hn];cases hd:l.drop at_ with
   |nil=>exact aT hd kd
   |cons x l'=>exact CO x l'
  rw[hn];have e6:aa.wrap ((at_:Int)+(n:Int))=((at_+n:Nat):Int):=by rw[aW (by omega)];omega
  rw[e6];refine Da (by omega) (by omega) ?_;have ea:ym (some ⟨r,0,none⟩) l.length at_ 1=some ⟨r,at_,none⟩:=by unfold ym;rw[ag (by omega)];show some (Addr.add ⟨r,0,none⟩ (at_* 1))=_;rw[gN,aC,lN]
  rw[ea,Nat.add_sub_cancel_left];obtain⟨fuel,rfl⟩:∃m,fuel=m+1:=⟨fuel-1,by omega⟩;have gi:=Bz (f:=aY.qL) (lk:=Ah) (n:=fuel) (s:=b') kd;have hdd:(l.drop at_).drop n=l.drop (at_+n):=jz;have Gr:(done++bn (l.length-at_) (0:Int)).length=l.length:=by rw[au,mO];omega
  have E1:(done++bn (l.length-at_) (0:Int)).drop (at_+n)=bn (l.length-(at_+n)) 0:=by
   rw[List.drop_append,ga (by omega),de,List.drop_replicate];congr 1;omega
  have qV:(done++bn (l.length-at_) (0:Int)).take at_=done:=by rw[<-zv,Cc]
  apply dh<;>intro g2
  ·have g2:(cn Ah (l.drop at_)).2=false:=by simpa using g2
   have LP:n=l.length-at_:=by rw[<-hn,xu g2,wk]
   have e7:aa.wrap ((n:Int) -1)=((n-1:Nat):Int):=by rw[aW (by omega)];omega
   rw[e7];refine IN (r:=r) (N:=l.length) (C:=l.length) (o:=at_) (n:=n) (by rw[Gr];omega) (by omega) (by omega) ?_;apply ws;rw[qV,E1];refine λw3 h3=>⟨⟨at_+n,fuel,b',ft,done++kA n (some (n-1,2)),by omega,by rw[au,kv];omega,by omega,?_,L0,by omega,rfl,h3⟩,by show l.length-((at_+n:Nat):Int).toNat<l.length-(at_:Int).toNat;omega⟩;rw[ai g2,hn] at gi;rw[o7,gi,show l.drop (at_+n)=[] from ga (by omega),vW];simp
  ·have g2:(cn Ah (l.drop at_)).2=true:=by simpa using g2
   rw[ag (by rw[g2];decide),hn,hdd] at gi;refine Da (by omega) (by omega) ?_;rw[Nat.add_sub_cancel_left];have C3:((l.drop at_).take n).length=n:=by rw[aD];omega
   have hr3:=UF.take (i:=n);refine Zz (p:=p) G (l:=(l.drop at_).take n) (o:=at_) hr3 C3.symm (λx hx=>ix x (List.mem_of_mem_drop (List.mem_of_mem_take hx))) L0 (by omega) (by rw[Gr];omega) (by omega) (λvQ b3 hd hP3 UG=>?_) (λe b3 hd he=>?_)
   ·apply ws;rw[C3] at UG;rw[hd] at gi;refine λw3 h3=>⟨⟨at_+n,fuel,b3,vQ,done++kA n none,by omega,by rw[au,kv];omega,by omega,?_,hP3,by omega,rfl,?_⟩,by show l.length-((at_+n:Nat):Int).toNat<l.length-(at_:Int).toNat;omega⟩
    ·rw[o7,gi];simp
    ·have e8:done++bn (l.length-at_) (0:Int)=done++kA n none++bn (l.length-(at_+n)) 0:=by
      rw[aH];congr 1;show _=bn n 0++_;rw[List.replicate_append_replicate];congr 1;omega
     rw[<-e8];exact h3
   ·apply ws;rw[C3];rw[hd] at gi;rw[qV,E1];refine λw3 h3=>⟨⟨at_+n,fuel,b',ft,done++kA n (some e),by omega,by rw[au,kv];omega,by omega,?_,L0,by omega,rfl,h3⟩,by show l.length-((at_+n:Nat):Int).toNat<l.length-(at_:Int).toNat;omega⟩;rw[o7,gi];simp
 ·have iM:at_=l.length:=by omega
  subst iM;rw[List.drop_length,vW] at o7;simp only[bI] at o7;rw[o7] at h;have:=h r ft (by omega) L0 zv;rw[lu,List.replicate_zero,bI];apply ws;exact this
end
end Go.Up
namespace Go.Prog
open Go.Den Go.Up Go.Md
def uj(p:OA)(now:Int)(K:VK):WK:=λw=>∃(W:World)(L:List Sep.HP)(a:Nat)(b:Up.aY)(m:aA)(hs:List C),
 p=ah a/\Sep.St W w (cO a (b,hs)::L)/\oT b m/\Md.bN m/\hs.length<=100000/\
 ∀(n:Int)(b':Up.aY)(ft:List C)(w':World),oT b' (m.time now)->Md.bN (m.time now)->ft.length<=200000->Sep.St W w' (cO a (b',ft)::L)->K (.i n) w'
def uj.u:WP:=λargs K=>match args with|[.pointer p,.int .i64 n]=>uj p n K|_=>no
end Go.Prog
