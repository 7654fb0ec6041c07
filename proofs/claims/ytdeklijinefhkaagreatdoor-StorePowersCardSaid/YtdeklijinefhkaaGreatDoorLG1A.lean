/- Part of the proof: see the last text. -/
import Derived.Test.YtdeklijinefhkaaGreatDoorPE
set_option linter.all false
set_option maxRecDepth 100000
set_option synthInstance.maxSize 100000
open Int renaming toNat_natCast→ak
open List renaming getElem?_eq_getElem→aj,take_length→aV,take_add_one→bg,getElem_mem→bF,map_append→cF,nil_append→cQ,map_cons→dx,map_congr_left→jv,length_replicate→kV,map_nil→ou
open Nat renaming zero_add→aB,zero_le→aF,le_refl→aI
namespace Go.Up
open Go.Sep Go.Den Go.RowKit Go.Prog Go.Md Go.cG
section
variable {W:World} {L R M:LH} {K:VK} {X:WK} {n s d g:Nat} {m m0:aA} {S:VS} {f:VS×aA->LH} {l:List UInt8} {D:aY}
def XN(G:oH W)(nu:12<=n)(cS:n<=4096)(hv:tN n D m g)(hg:g<256)
 (h:∀v pb pj S,VW n S m g->S.D=D->Md.bW m->T W (VL v d n pb pj m S R) (K (.tuple ⟨[.p (ah v),.i 0]⟩))):T W (gN d D::R) (kX (ah d) K):=by
 obtain⟨J,hd,mb,qs,h2,rfl⟩:=hv;exact Fs G nu cS h2 hg λv pb pj oB=>h v pb pj _ ⟨rfl,hd,mb,qs,h2,rfl,rfl⟩ rfl oB
def aaU(G:oH W)[i:Lc (u3 n s) L (S,m) f]{mask torn cut:Int}{gg:Nat}(nu:12<=n)(cS:n<=4096)(iz:HZ S)(hv:tN n (S.D.fJ mask torn cut) m0 gg)(hgg:gg<256)
 (h:∀S',VW n S' m0 gg->S'.D.arm=0->Md.bW m0->T W (f (S',m0)) (K (.i 0))):T W L (iJ (ah s) mask torn cut K):=by
 refine zb (n:=n) (s:=s) λd v pb pj M hM=>?_;unfold iJ;apply ws;refine Q2 (d:=d) iz.ok (by have:=iz.oJ;omega) ?_;apply ws;refine T.pl [3] ?_;refine XN G nu cS hv hgg λv' Ug Uf S' hw hD abz=>?_;apply ws;apply ir (by decide);apply ws;refine T.sub (M:=VL v' d n Ug Uf m0 S' (Sep.pt s (JO d v')::M)) ?_ (by exact qo);exact hM d v' Ug Uf S' m0 [] _ (h S' hw (by rw[hD,oa]) abz)
def Xo[i:Lc (u3 n s) L (S,m) f](h:T W L (K (.i S.bu))):T W L (mW (ah s) K):=by
 refine zb (n:=n) (s:=s) λd v pb pj M hM=>?_;unfold mW;apply ws;refine W4 ?_;apply ws;refine hM d v pb pj S m [] _ ?_;rw[cQ,i.same];exact h
instance:Wr Zv 0 Zv Zv:=⟨rfl,aI _,λv hv=>by simp[Zv] at hv;subst hv;rfl⟩
instance:Ln Zv 5:=⟨rfl⟩
instance:Sub Zv 0 5 Zv:=⟨rfl,λj v h=>by rw[aB];exact h⟩
def Xr{k:Int}(hk:k<12)(h:T W L (K (.tuple ⟨[.p none,.i 1]⟩))):T W L (jO k K):=by
 have e:((aY.new k).safe.length:Int)<12:=by
  unfold aY.new;simp only[kV];unfold Go.Den.min2 Go.Den.max2;split<;>split<;>omega
 unfold jO;refine Uj λd=>?_;apply tz;unfold kX;apply ef rfl;apply Ds (d:=d);apply kd;unfold sy sy.j1;apply ws;intros;apply ir (aw e);apply ws;intros;apply ir (by decide);apply ws;apply ir (by decide);apply qe;exact T.drop (T.drop (T.drop h))
end
section
variable {W:World} {L R R' M:LH} {K:VK} {X:WK} {p p2 s:Nat} {m m2 ms:aA} {S:VS} {mb kb rh kN:OA} {mc kc q9 kM:Nat} {sb:OA} {sc:Nat} {l:List UInt8} {A:HP} {ls:List (List UInt8)}
def Bk.u3(hb:Bk p m mb mc kb kc (A::R) p2 m2 rh q9 kN kM R')(h:T W (A::ML p2 m2 rh q9 kN kM R) X):T W (ML p2 m2 rh q9 kN kM R') X:=by
 rcases hb with⟨rfl,rfl,rfl,rfl,rfl,rfl,rfl⟩|rfl
 ·exact T.pl [3] h
 ·exact T.pl [6] (T.sub h (by exact qo))
def Ir(hm:RM m)(hl:l.length<1099511627776)
 (h:∀p2 rh q9 kN kM R',Bk p m mb mc kb kc R p2 (uT m l) rh q9 kN kM R'->RM (uT m l)->T W (ML p2 (uT m l) rh q9 kN kM R') (K (.tuple ⟨[.s (bs (y9 m l)),.p (ah p2)]⟩))):
 T W (ML p m mb mc kb kc R) (lV (ah p) (bs l) K):=by
 unfold lV;unfold uT y9 at h;refine zS hl (λhr=>?_) (λhr A sl hq=>?_)
 ·rw[ag (by rw[hr];decide),ag (by rw[hr];decide)] at h;have h:=h p mb mc kb kc R (.inl ⟨rfl,rfl,rfl,rfl,rfl,rfl,rfl⟩) hm;apply ws;intros;apply ir (by decide);apply qE;apply ws;exact T.drop h
 ·rw[ai hr,ai hr] at h;obtain⟨o1,o2,o3,o4⟩:=BX l;have hw:=nX hr;apply ws;intros;rename_i r1;refine ef (by decide) ?_;apply ws;refine T.pl [2,2,2] ?_;have Z':pw W (Sep.pt r1 (gP (gV l).1 sl)::A::R) (gV l).1 sl:=pw.two hq;generalize (gV l).1=q at o1 o2 o3 o4 hw Z' h⊢;refine F0 hm hw Z' o3 o4 o1 o2 λp2 rh q9 kN kM R' Ck KW=>?_;apply ws;exact Bk.less Ck λR2 xa=>h p2 rh q9 kN kM R2 xa KW
def Lt(hm:RM m)(h:T W (u3 600 s (S,ms)::ML p m mb mc kb kc R) (K (.b (decide (xG m ms))))):
 T W (u3 600 s (S,ms)::ML p m mb mc kb kc R) (mD (ah s) (ah p) K):=by
 unfold mD;refine qC (n:=600) (s:=s) λp3=>?_;apply tz;refine rX (p:=p3) λab ac=>?_;apply uE;refine yG (p:=p3) λxb xc=>?_;apply uE;apply yH (p:=p3);apply kd;refine yC (p:=p3) ?_;refine kd ?_;refine T.pl [4,4,4] ?_;apply PR hm;apply oF;have e:decide (m.cW.map m.full=(bo ms).aC/\m.ax=(bo ms).ax/\m.clock=(bo ms).clock/\m.ay=(bo ms).ay)=decide (xG m ms):=by
  have e1:m.cW.map m.full=(bo m).aC:=jv λa ha=>hm.ground.full ha;rw[e1,decide_eq_decide];exact Iff.rfl
 rw[e];refine T.pl (M:=u3 600 s (S,ms)::ML p m mb mc kb kc (own xb _ _ _ _::own ab _ _ _ _::cL p3 (bo ms,[])::R)) [6,0,0,0] ?_;exact T.sub h (by exact qo)
def Al(hr:mE W [] sC 1 sb ls)(xt:SIn ls)
 (h:∀b:Bool,(b=false->ls.length<=60/\∀x∈ls,x.length<=16384)->T W L (K (.b b))):T W L (iT sb ls.length sc K):=by
 obtain⟨hl,xt⟩:=xt;unfold maxLen at hl;unfold iT;intro w jS;refine⟨λvv w=>∃(i:Nat)(n:Int),i<=ls.length/\(ls.length<=60->n=(((ls.take i).map λx=>x.length).sum:Nat))/\vv=[.b false,.i n,.l sb ls.length sc,.i (ls.length:Int),.i (i:Int)]/\St W w L,
  mq 4 ls.length,⟨0,0,aF _,(λ_=>rfl),rfl,jS⟩,?_⟩
 rintro b1 n1 ov mo qf n2 n3 w2 ⟨i,nn,hi,Om,e,ib⟩;cases e
 refine T.at ?_ ib;have hbound:∀j,j<=ls.length->ls.length<=60->((ls.take j).map λx=>x.length).sum<=j* 140737488355328:=λj=>by
  induction j with
  |zero=>intro _ _;simp
  |succ j ih=>
   intro hj Jd;have:=ih (by omega) Jd;have gx:=aj (show j<ls.length by omega);have hx:=xt _ (bF (show j<ls.length by omega));rw[bg,gx,cF,List.sum_append];simp only[Option.toList_some,dx,ou,List.sum_cons,List.sum_nil];omega
 apply ga<;>intro g1
 ·have cn:i<ls.length:=by omega
  have e5:=nI i;have gx:=aj cn;have hx:=xt _ (bF cn);have tj:ls.take (i+1)=ls.take i++[ls[i]]:=by rw[bg,gx];rfl
  generalize ls[i]=x at gx hx tj;refine iq hr ⟨by omega,by omega⟩ rfl λa ha=>?_;rw[ak];apply Fx hr ha gx;apply qz;rw[e5];refine λw3 h3=>⟨⟨i+1,_,cn,λJd=>?_,rfl,h3⟩,dn (by omega)⟩;have hb:=hbound i (by omega) Jd;rw[Om Jd,tj,cF,List.sum_append,bV];simp only[dx,ou,List.sum_cons,List.sum_nil];rw[aX (by omega)];omega
 ·have iZ:i=ls.length:=by omega
  subst iZ;rw[aV] at Om;apply ga<;>intro g2
  ·exact h true (λhh=>by cases hh)
  ·have Jd:ls.length<=60:=by omega
   have hs:=Om Jd;refine h _ (λhh=>⟨Jd,λx hx=>?_⟩);have hh:=bj hh;have:x.length<=(ls.map λx=>x.length).sum:=JL (List.mem_map_of_mem hx);omega
def Aq(G:oH W)(h:T W L (K (.b true))):T W L (iU K):=by
 unfold iU;refine zm G (n:=12) (by decide) (by decide) λs=>?_;apply ws;apply ir (by decide);have hz0:VZ 12 (th 12) mY 0:=.inl (Hc (by decide) (by decide));show T W _ (fA (ah s) (bs []) _);refine AA G (n:=12) (s:=s) (l:=[]) kx (hz0.vok (by decide)) (λhg=>hz0.W2 (by decide) (by decide) (by decide) hg kx) (by decide) (by decide) (by decide) λ_ _=>?_;have e0:Hn 12 mY (th 12) []=(th 12,mY,pM 4 [] [] []):=rfl;rw[e0];apply qz;show T W _ (br (nG (bs (pM 4 [] [] [])) (bs [4,0,0,0])) _ _);rw[qA,aw (by rfl)];apply qe;refine qC (n:=12) (s:=s) λp=>?_;apply tz;apply yH (p:=p);apply kd;exact T.drop (T.drop h)
end
end Go.Up
