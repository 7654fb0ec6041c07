/- Part of the proof: see the last text. -/
import Derived.Test.YtfijieggfhnpeaaGreatDoorPE
import Derived.Test.YtfijieggfhnpeaaGreatDoorPD
set_option linter.all false
set_option maxRecDepth 100000
set_option synthInstance.maxSize 100000
open Go.IntKind renaming i64→ag
open List renaming append_nil→bN,mem_cons→gK
open Nat renaming zero_add→az,le_refl→aC,mod_eq_of_lt→eX
namespace Go.Prog
open Go.Den
def aa.j2(K:VK)(b4:Bool):WK:=
K (.b b4)
def aa.j5(K:VK)(r3 r4 r5 r6:Nat)(b7:Bool):WK:=
br b7 (
lI (ad r3 0) λn7=>
lI (ad r4 0) λn8=>
lI (ad r5 0) λn9=>
lI (ad r6 0) λWn=>
aa.j2 K ((ag.wrap ((ag.wrap ((ag.wrap (n7+n8))+n9))+Wn))==0)) (
aa.j2 K false)
def aa.j4(K:VK)(r3 r4 r5 r6:Nat)(n5:Int)(b6:Bool):WK:=
br b6 (
aa.j5 K r3 r4 r5 r6 (n5==1)) (
aa.j5 K r3 r4 r5 r6 false)
def aa.j3(K:VK)(r3 r4 r5 r6:Nat)(n5 n4:Int)(b5:Bool):WK:=
br b5 (
aa.j4 K r3 r4 r5 r6 n5 (n4==1)) (
aa.j4 K r3 r4 r5 r6 n5 false)
def aa.j7(K:VK)(Ip r1 r9 r8 r2 Io wi:Nat)(n1:Int)(r6:Nat)(b9:Bool):WK:=
br b9 (
K (.b false)) (
tick (
aD (ad Ip 0) 16 λG6=>
aD (ad r1 0) 2 λMA=>
aD (ad r9 0) 2 λSK=>
aD (ad r8 0) 2 λSJ=>
aD (ad r2 0) 2 λMz=>
aY (MA.length=2/\(SK.length=2/\(SJ.length=2/\(Mz.length=2/\(1=1/\(1=1/\True)))))) (
lK bZ G6 (MA++(SK++(SJ++(Mz++([.u 0,.u 0,.i 0,.i 7,.i 1,.i 0,.i 0,.i 0]:LV))))) λb10=>
br b10 (
aD (ad Io 0) 16 λPN=>
aD (ad r1 0) 2 λMy=>
aD (ad wi 0) 2 λMx=>
aD (ad r9 0) 2 λMw=>
aD (ad r2 0) 2 λMv=>
aY (My.length=2/\(Mx.length=2/\(Mw.length=2/\(Mv.length=2/\(1=1/\(1=1/\(1=1/\(1=1/\True)))))))) (
lK bZ PN (My++(Mx++(Mw++(Mv++([.u 0,.u 0,.i n1,.i 7,.i 1,.i 2,.i 0,.i 0]:LV))))) λb11=>
br b11 (
lL (ad r6 4) λsb6 sn6 sc6=>
gp sb6 sn6 0 2 λa6=>
aD a6 2 λPM=>
aD (ad r9 0) 2 λPK=>
lK [.u 0,.u 0] PM PK λb12=>
br b12 (
lL (ad r6 4) λsb7 sn7 sc7=>
gp sb7 sn7 1 2 λa7=>
aD a7 2 λSI=>
aD (ad wi 0) 2 λSH=>
lK [.u 0,.u 0] SI SH λb13=>
K (.b b13)) (
K (.b false))) (
K (.b false)))) (
K (.b false)))))
def aa.j9(K:VK)(Ip r1 r9 r8 r2 Io wi:Nat)(n1:Int)(r6:Nat)(b15:Bool):WK:=
br b15 (
aa.j7 K Ip r1 r9 r8 r2 Io wi n1 r6 true) (
lI (ad r8 10) λRI=>
br (RI !=7) (
aa.j7 K Ip r1 r9 r8 r2 Io wi n1 r6 true) (
lI (ad r9 11) λWm=>
aa.j7 K Ip r1 r9 r8 r2 Io wi n1 r6 (Wm !=1)))
def aa.j8(K:VK)(Ip r1 r9 r8 r2 Io wi:Nat)(n1:Int)(r6:Nat)(b14:Bool):WK:=
br b14 (
aa.j9 K Ip r1 r9 r8 r2 Io wi n1 r6 true) (
lI (ad wi 12) λZa=>
aa.j9 K Ip r1 r9 r8 r2 Io wi n1 r6 (Za !=0))
def aa.LW(K:VK)(EF r1 r9 r8 r2 J5 wi:Nat)(n1:Int)(r6:Nat)(b16:Bool):WK:=
br b16 (
K (.b false)) (
tick (
aD (ad EF 0) 16 λXw=>
aD (ad r1 0) 2 λSG=>
aD (ad r9 0) 2 λSF=>
aD (ad r8 0) 2 λSE=>
aD (ad r2 0) 2 λMu=>
aY (SG.length=2/\(SF.length=2/\(SE.length=2/\(Mu.length=2/\(1=1/\(1=1/\True)))))) (
lK bZ Xw (SG++(SF++(SE++(Mu++([.u 0,.u 0,.i 0,.i 7,.i 1,.i 0,.i 0,.i 0]:LV))))) λb17=>
br b17 (
aD (ad J5 0) 16 λPI=>
aD (ad r1 0) 2 λMt=>
aD (ad wi 0) 2 λMs=>
aD (ad r9 0) 2 λMr=>
aD (ad r2 0) 2 λMq=>
aY (Mt.length=2/\(Ms.length=2/\(Mr.length=2/\(Mq.length=2/\(1=1/\(1=1/\(1=1/\(1=1/\True)))))))) (
lK bZ PI (Mt++(Ms++(Mr++(Mq++([.u 0,.u 0,.i n1,.i 7,.i 1,.i 2,.i 0,.i 0]:LV))))) λb18=>
br b18 (
lL (ad r6 4) λsb8 sn8 sc8=>
gp sb8 sn8 0 2 λa8=>
aD a8 2 λPH=>
aD (ad r9 0) 2 λPG=>
lK [.u 0,.u 0] PH PG λb19=>
br b19 (
lL (ad r6 4) λsb9 sn9 sc9=>
gp sb9 sn9 1 2 λa9=>
aD a9 2 λSD=>
aD (ad wi 0) 2 λSC=>
lK [.u 0,.u 0] SD SC λb20=>
K (.b b20)) (
K (.b false))) (
K (.b false)))) (
K (.b false)))))
def aa.TW(K:VK)(EF r1 r9 r8 r2 J5 wi:Nat)(n1:Int)(r6:Nat)(b22:Bool):WK:=
br b22 (
aa.LW K EF r1 r9 r8 r2 J5 wi n1 r6 true) (
lI (ad r8 10) λn17=>
br (n17 !=7) (
aa.LW K EF r1 r9 r8 r2 J5 wi n1 r6 true) (
lI (ad r9 11) λn18=>
aa.LW K EF r1 r9 r8 r2 J5 wi n1 r6 (n18 !=1)))
def aa.TX(K:VK)(EF r1 r9 r8 r2 J5 wi:Nat)(n1:Int)(r6:Nat)(b21:Bool):WK:=
br b21 (
aa.TW K EF r1 r9 r8 r2 J5 wi n1 r6 true) (
lI (ad wi 12) λn19=>
aa.TW K EF r1 r9 r8 r2 J5 wi n1 r6 (n19 !=0))
def aa.RY(K:VK)(J4 r1 wh r8 r2 Nf xy:Nat)(n1:Int)(r6:Nat)(b23:Bool):WK:=
br b23 (
K (.b false)) (
tick (
aD (ad J4 0) 16 λafF=>
aD (ad r1 0) 2 λabi=>
aD (ad wh 0) 2 λabh=>
aD (ad r8 0) 2 λabg=>
aD (ad r2 0) 2 λabf=>
aY (abi.length=2/\(abh.length=2/\(abg.length=2/\(abf.length=2/\(1=1/\(1=1/\True)))))) (
lK bZ afF (abi++(abh++(abg++(abf++([.u 0,.u 0,.i 0,.i 7,.i 1,.i 0,.i 0,.i 0]:LV))))) λb24=>
br b24 (
aD (ad Nf 0) 16 λafE=>
aD (ad r1 0) 2 λabe=>
aD (ad xy 0) 2 λabd=>
aD (ad wh 0) 2 λabc=>
aD (ad r2 0) 2 λabb=>
aY (abe.length=2/\(abd.length=2/\(abc.length=2/\(abb.length=2/\(1=1/\(1=1/\(1=1/\(1=1/\True)))))))) (
lK bZ afE (abe++(abd++(abc++(abb++([.u 0,.u 0,.i n1,.i 7,.i 1,.i 2,.i 0,.i 0]:LV))))) λb25=>
br b25 (
lL (ad r6 4) λac6 acH agk=>
gp ac6 acH 0 2 λa12=>
aD a12 2 λafD=>
aD (ad wh 0) 2 λafC=>
lK [.u 0,.u 0] afD afC λb26=>
br b26 (
lL (ad r6 4) λac5 acG agj=>
gp ac5 acG 1 2 λa13=>
aD a13 2 λafB=>
aD (ad xy 0) 2 λafA=>
lK [.u 0,.u 0] afB afA λb27=>
K (.b b27)) (
K (.b false))) (
K (.b false)))) (
K (.b false)))))
def aa.j15(K:VK)(J4 r1 wh r8 r2 Nf xy:Nat)(n1:Int)(r6:Nat)(b29:Bool):WK:=
br b29 (
aa.RY K J4 r1 wh r8 r2 Nf xy n1 r6 true) (
lI (ad r8 10) λn22=>
br (n22 !=7) (
aa.RY K J4 r1 wh r8 r2 Nf xy n1 r6 true) (
lI (ad wh 11) λn23=>
aa.RY K J4 r1 wh r8 r2 Nf xy n1 r6 (n23 !=1)))
def aa.j14(K:VK)(J4 r1 wh r8 r2 Nf xy:Nat)(n1:Int)(r6:Nat)(b28:Bool):WK:=
br b28 (
aa.j15 K J4 r1 wh r8 r2 Nf xy n1 r6 true) (
lI (ad xy 12) λn24=>
aa.j15 K J4 r1 wh r8 r2 Nf xy n1 r6 (n24 !=0))
def aa.j16(K:VK)(Nc r1 wh r8 r2 Nd xy:Nat)(n1:Int)(r6:Nat)(b30:Bool):WK:=
br b30 (
K (.b false)) (
tick (
aD (ad Nc 0) 16 λafz=>
aD (ad r1 0) 2 λaba=>
aD (ad wh 0) 2 λaa'=>
aD (ad r8 0) 2 λaa9=>
aD (ad r2 0) 2 λaa8=>
aY (aba.length=2/\(aa'.length=2/\(aa9.length=2/\(aa8.length=2/\(1=1/\(1=1/\True)))))) (
lK bZ afz (aba++(aa'++(aa9++(aa8++([.u 0,.u 0,.i 0,.i 7,.i 1,.i 0,.i 0,.i 0]:LV))))) λb31=>
br b31 (
aD (ad Nd 0) 16 λafy=>
aD (ad r1 0) 2 λaa7=>
aD (ad xy 0) 2 λaa6=>
aD (ad wh 0) 2 λaa5=>
aD (ad r2 0) 2 λaa4=>
aY (aa7.length=2/\(aa6.length=2/\(aa5.length=2/\(aa4.length=2/\(1=1/\(1=1/\(1=1/\(1=1/\True)))))))) (
lK bZ afy (aa7++(aa6++(aa5++(aa4++([.u 0,.u 0,.i n1,.i 7,.i 1,.i 2,.i 0,.i 0]:LV))))) λb32=>
br b32 (
lL (ad r6 4) λac4 acF agi=>
gp ac4 acF 0 2 λa14=>
aD a14 2 λafx=>
aD (ad wh 0) 2 λafw=>
lK [.u 0,.u 0] afx afw λb33=>
br b33 (
lL (ad r6 4) λac1 acE agh=>
gp ac1 acE 1 2 λa15=>
aD a15 2 λafv=>
aD (ad xy 0) 2 λafu=>
lK [.u 0,.u 0] afv afu λb34=>
K (.b b34)) (
K (.b false))) (
K (.b false)))) (
K (.b false)))))
def aa.j18(K:VK)(Nc r1 wh r8 r2 Nd xy:Nat)(n1:Int)(r6:Nat)(b36:Bool):WK:=
br b36 (
aa.j16 K Nc r1 wh r8 r2 Nd xy n1 r6 true) (
lI (ad r8 10) λn27=>
br (n27 !=7) (
aa.j16 K Nc r1 wh r8 r2 Nd xy n1 r6 true) (
lI (ad wh 11) λn28=>
aa.j16 K Nc r1 wh r8 r2 Nd xy n1 r6 (n28 !=1)))
def aa.j17(K:VK)(Nc r1 wh r8 r2 Nd xy:Nat)(n1:Int)(r6:Nat)(b35:Bool):WK:=
br b35 (
aa.j18 K Nc r1 wh r8 r2 Nd xy n1 r6 true) (
lI (ad xy 12) λn29=>
aa.j18 K Nc r1 wh r8 r2 Nd xy n1 r6 (n29 !=0))
def aa.j19(K:VK)(Nb r1 oF zp r2 Na zo:Nat)(n1:Int)(r6:Nat)(b37:Bool):WK:=
br b37 (
K (.b false)) (
tick (
aD (ad Nb 0) 16 λaft=>
aD (ad r1 0) 2 λaa3=>
aD (ad oF 0) 2 λaa2=>
aD (ad zp 0) 2 λaa1=>
aD (ad r2 0) 2 λaa0=>
aY (aa3.length=2/\(aa2.length=2/\(aa1.length=2/\(aa0.length=2/\(1=1/\(1=1/\True)))))) (
lK bZ aft (aa3++(aa2++(aa1++(aa0++([.u 0,.u 0,.i 0,.i 7,.i 1,.i 0,.i 0,.i 0]:LV))))) λb38=>
br b38 (
aD (ad Na 0) 16 λafs=>
aD (ad r1 0) 2 λaaZ=>
aD (ad zo 0) 2 λaaY=>
aD (ad oF 0) 2 λaaX=>
aD (ad r2 0) 2 λaaW=>
aY (aaZ.length=2/\(aaY.length=2/\(aaX.length=2/\(aaW.length=2/\(1=1/\(1=1/\(1=1/\(1=1/\True)))))))) (
lK bZ afs (aaZ++(aaY++(aaX++(aaW++([.u 0,.u 0,.i n1,.i 7,.i 1,.i 2,.i 0,.i 0]:LV))))) λb39=>
br b39 (
lL (ad r6 4) λacZ acD agf=>
gp acZ acD 0 2 λa18=>
aD a18 2 λafr=>
aD (ad oF 0) 2 λafq=>
lK [.u 0,.u 0] afr afq λb40=>
br b40 (
lL (ad r6 4) λacY acC age=>
gp acY acC 1 2 λa19=>
aD a19 2 λafp=>
aD (ad zo 0) 2 λafo=>
lK [.u 0,.u 0] afp afo λb41=>
K (.b b41)) (
K (.b false))) (
K (.b false)))) (
K (.b false)))))
def aa.j21(K:VK)(Nb r1 oF zp r2 Na zo:Nat)(n1:Int)(r6:Nat)(b43:Bool):WK:=
br b43 (
aa.j19 K Nb r1 oF zp r2 Na zo n1 r6 true) (
lI (ad zp 10) λn32=>
br (n32 !=7) (
aa.j19 K Nb r1 oF zp r2 Na zo n1 r6 true) (
lI (ad oF 11) λn33=>
aa.j19 K Nb r1 oF zp r2 Na zo n1 r6 (n33 !=1)))
def aa.j20(K:VK)(Nb r1 oF zp r2 Na zo:Nat)(n1:Int)(r6:Nat)(b42:Bool):WK:=
br b42 (
aa.j21 K Nb r1 oF zp r2 Na zo n1 r6 true) (
lI (ad zo 12) λn34=>
aa.j21 K Nb r1 oF zp r2 Na zo n1 r6 (n34 !=0))
def aa.j22(K:VK)(M9 r1 oF zp r2 M' zo:Nat)(n1:Int)(r6:Nat)(b44:Bool):WK:=
br b44 (
K (.b false)) (
tick (
aD (ad M9 0) 16 λafn=>
aD (ad r1 0) 2 λaaV=>
aD (ad oF 0) 2 λaaU=>
aD (ad zp 0) 2 λaaT=>
aD (ad r2 0) 2 λaaS=>
aY (aaV.length=2/\(aaU.length=2/\(aaT.length=2/\(aaS.length=2/\(1=1/\(1=1/\True)))))) (
lK bZ afn (aaV++(aaU++(aaT++(aaS++([.u 0,.u 0,.i 0,.i 7,.i 1,.i 0,.i 0,.i 0]:LV))))) λb45=>
br b45 (
aD (ad M' 0) 16 λafm=>
aD (ad r1 0) 2 λaaR=>
aD (ad zo 0) 2 λU8=>
aD (ad oF 0) 2 λU7=>
aD (ad r2 0) 2 λU6=>
aY (aaR.length=2/\(U8.length=2/\(U7.length=2/\(U6.length=2/\(1=1/\(1=1/\(1=1/\(1=1/\True)))))))) (
lK bZ afm (aaR++(U8++(U7++(U6++([.u 0,.u 0,.i n1,.i 7,.i 1,.i 2,.i 0,.i 0]:LV))))) λb46=>
br b46 (
lL (ad r6 4) λacX acB agd=>
gp acX acB 0 2 λa20=>
aD a20 2 λabX=>
aD (ad oF 0) 2 λabW=>
lK [.u 0,.u 0] abX abW λb47=>
br b47 (
lL (ad r6 4) λacW acA agc=>
gp acW acA 1 2 λa21=>
aD a21 2 λabV=>
aD (ad zo 0) 2 λabU=>
lK [.u 0,.u 0] abV abU λb48=>
K (.b b48)) (
K (.b false))) (
K (.b false)))) (
K (.b false)))))
def aa.j24(K:VK)(M9 r1 oF zp r2 M' zo:Nat)(n1:Int)(r6:Nat)(b50:Bool):WK:=
br b50 (
aa.j22 K M9 r1 oF zp r2 M' zo n1 r6 true) (
lI (ad zp 10) λn37=>
br (n37 !=7) (
aa.j22 K M9 r1 oF zp r2 M' zo n1 r6 true) (
lI (ad oF 11) λn38=>
aa.j22 K M9 r1 oF zp r2 M' zo n1 r6 (n38 !=1)))
def aa.j23(K:VK)(M9 r1 oF zp r2 M' zo:Nat)(n1:Int)(r6:Nat)(b49:Bool):WK:=
br b49 (
aa.j24 K M9 r1 oF zp r2 M' zo n1 r6 true) (
lI (ad zo 12) λn39=>
aa.j24 K M9 r1 oF zp r2 M' zo n1 r6 (n39 !=0))
def aa.j25(K:VK)(M8 r1 oF zm r2 M7 zn:Nat)(n1:Int)(r6:Nat)(b51:Bool):WK:=
br b51 (
K (.b false)) (
tick (
aD (ad M8 0) 16 λabT=>
aD (ad r1 0) 2 λU5=>
aD (ad oF 0) 2 λU4=>
aD (ad zm 0) 2 λU3=>
aD (ad r2 0) 2 λU2=>
aY (U5.length=2/\(U4.length=2/\(U3.length=2/\(U2.length=2/\(1=1/\(1=1/\True)))))) (
lK bZ abT (U5++(U4++(U3++(U2++([.u 0,.u 0,.i 0,.i 7,.i 1,.i 0,.i 0,.i 0]:LV))))) λb52=>
br b52 (
aD (ad M7 0) 16 λabS=>
aD (ad r1 0) 2 λU1=>
aD (ad zn 0) 2 λU0=>
aD (ad oF 0) 2 λUZ=>
aD (ad r2 0) 2 λUY=>
aY (U1.length=2/\(U0.length=2/\(UZ.length=2/\(UY.length=2/\(1=1/\(1=1/\(1=1/\(1=1/\True)))))))) (
lK bZ abS (U1++(U0++(UZ++(UY++([.u 0,.u 0,.i n1,.i 7,.i 1,.i 2,.i 0,.i 0]:LV))))) λb53=>
br b53 (
lL (ad r6 4) λacV acz agb=>
gp acV acz 0 2 λa24=>
aD a24 2 λabR=>
aD (ad oF 0) 2 λabQ=>
lK [.u 0,.u 0] abR abQ λb54=>
br b54 (
lL (ad r6 4) λacU acy aga=>
gp acU acy 1 2 λa25=>
aD a25 2 λabP=>
aD (ad zn 0) 2 λabO=>
lK [.u 0,.u 0] abP abO λb55=>
K (.b b55)) (
K (.b false))) (
K (.b false)))) (
K (.b false)))))
def aa.j27(K:VK)(M8 r1 oF zm r2 M7 zn:Nat)(n1:Int)(r6:Nat)(b57:Bool):WK:=
br b57 (
aa.j25 K M8 r1 oF zm r2 M7 zn n1 r6 true) (
lI (ad zm 10) λn42=>
br (n42 !=7) (
aa.j25 K M8 r1 oF zm r2 M7 zn n1 r6 true) (
lI (ad oF 11) λn43=>
aa.j25 K M8 r1 oF zm r2 M7 zn n1 r6 (n43 !=1)))
def aa.j26(K:VK)(M8 r1 oF zm r2 M7 zn:Nat)(n1:Int)(r6:Nat)(b56:Bool):WK:=
br b56 (
aa.j27 K M8 r1 oF zm r2 M7 zn n1 r6 true) (
lI (ad zn 12) λn44=>
aa.j27 K M8 r1 oF zm r2 M7 zn n1 r6 (n44 !=0))
def aa.j28(K:VK)(M5 r1 oF zm r2 M6 zn:Nat)(n1:Int)(r6:Nat)(b58:Bool):WK:=
br b58 (
K (.b false)) (
tick (
aD (ad M5 0) 16 λabN=>
aD (ad r1 0) 2 λUX=>
aD (ad oF 0) 2 λUW=>
aD (ad zm 0) 2 λUU=>
aD (ad r2 0) 2 λUT=>
aY (UX.length=2/\(UW.length=2/\(UU.length=2/\(UT.length=2/\(1=1/\(1=1/\True)))))) (
lK bZ abN (UX++(UW++(UU++(UT++([.u 0,.u 0,.i 0,.i 7,.i 1,.i 0,.i 0,.i 0]:LV))))) λb59=>
br b59 (
aD (ad M6 0) 16 λabM=>
aD (ad r1 0) 2 λUS=>
aD (ad zn 0) 2 λUR=>
aD (ad oF 0) 2 λUQ=>
aD (ad r2 0) 2 λUP=>
aY (US.length=2/\(UR.length=2/\(UQ.length=2/\(UP.length=2/\(1=1/\(1=1/\(1=1/\(1=1/\True)))))))) (
lK bZ abM (US++(UR++(UQ++(UP++([.u 0,.u 0,.i n1,.i 7,.i 1,.i 2,.i 0,.i 0]:LV))))) λb60=>
br b60 (
lL (ad r6 4) λacT acx af'=>
gp acT acx 0 2 λa26=>
aD a26 2 λabL=>
aD (ad oF 0) 2 λabK=>
lK [.u 0,.u 0] abL abK λb61=>
br b61 (
lL (ad r6 4) λacS acw af9=>
gp acS acw 1 2 λa27=>
aD a27 2 λabJ=>
aD (ad zn 0) 2 λabI=>
lK [.u 0,.u 0] abJ abI λb62=>
K (.b b62)) (
K (.b false))) (
K (.b false)))) (
K (.b false)))))
def aa.j30(K:VK)(M5 r1 oF zm r2 M6 zn:Nat)(n1:Int)(r6:Nat)(b64:Bool):WK:=
br b64 (
aa.j28 K M5 r1 oF zm r2 M6 zn n1 r6 true) (
lI (ad zm 10) λn47=>
br (n47 !=7) (
aa.j28 K M5 r1 oF zm r2 M6 zn n1 r6 true) (
lI (ad oF 11) λn48=>
aa.j28 K M5 r1 oF zm r2 M6 zn n1 r6 (n48 !=1)))
def aa.j29(K:VK)(M5 r1 oF zm r2 M6 zn:Nat)(n1:Int)(r6:Nat)(b63:Bool):WK:=
br b63 (
aa.j30 K M5 r1 oF zm r2 M6 zn n1 r6 true) (
lI (ad zn 12) λn49=>
aa.j30 K M5 r1 oF zm r2 M6 zn n1 r6 (n49 !=0))
def aa.j31(K:VK)(M4 r1 xg zl r2 M3 qg:Nat)(n1:Int)(r6:Nat)(b65:Bool):WK:=
br b65 (
K (.b false)) (
tick (
aD (ad M4 0) 16 λabH=>
aD (ad r1 0) 2 λUO=>
aD (ad xg 0) 2 λUN=>
aD (ad zl 0) 2 λUM=>
aD (ad r2 0) 2 λUL=>
aY (UO.length=2/\(UN.length=2/\(UM.length=2/\(UL.length=2/\(1=1/\(1=1/\True)))))) (
lK bZ abH (UO++(UN++(UM++(UL++([.u 0,.u 0,.i 0,.i 7,.i 1,.i 0,.i 0,.i 0]:LV))))) λb66=>
br b66 (
aD (ad M3 0) 16 λabG=>
aD (ad r1 0) 2 λUK=>
aD (ad qg 0) 2 λUJ=>
aD (ad xg 0) 2 λUI=>
aD (ad r2 0) 2 λUH=>
aY (UK.length=2/\(UJ.length=2/\(UI.length=2/\(UH.length=2/\(1=1/\(1=1/\(1=1/\(1=1/\True)))))))) (
lK bZ abG (UK++(UJ++(UI++(UH++([.u 0,.u 0,.i n1,.i 7,.i 1,.i 2,.i 0,.i 0]:LV))))) λb67=>
br b67 (
lL (ad r6 4) λacR acv af8=>
gp acR acv 0 2 λa30=>
aD a30 2 λabF=>
aD (ad xg 0) 2 λabE=>
lK [.u 0,.u 0] abF abE λb68=>
br b68 (
lL (ad r6 4) λacQ acu af7=>
gp acQ acu 1 2 λa31=>
aD a31 2 λabD=>
aD (ad qg 0) 2 λabC=>
lK [.u 0,.u 0] abD abC λb69=>
K (.b b69)) (
K (.b false))) (
K (.b false)))) (
K (.b false)))))
def aa.j33(K:VK)(M4 r1 xg zl r2 M3 qg:Nat)(n1:Int)(r6:Nat)(b71:Bool):WK:=
br b71 (
aa.j31 K M4 r1 xg zl r2 M3 qg n1 r6 true) (
lI (ad zl 10) λn52=>
br (n52 !=7) (
aa.j31 K M4 r1 xg zl r2 M3 qg n1 r6 true) (
lI (ad xg 11) λn53=>
aa.j31 K M4 r1 xg zl r2 M3 qg n1 r6 (n53 !=1)))
def aa.j32(K:VK)(M4 r1 xg zl r2 M3 qg:Nat)(n1:Int)(r6:Nat)(b70:Bool):WK:=
br b70 (
aa.j33 K M4 r1 xg zl r2 M3 qg n1 r6 true) (
lI (ad qg 12) λn54=>
aa.j33 K M4 r1 xg zl r2 M3 qg n1 r6 (n54 !=0))
def aa.j34(K:VK)(M0 r1 xg zl r2 M1 qg:Nat)(n1:Int)(r6:Nat)(b72:Bool):WK:=
br b72 (
K (.b false)) (
tick (
aD (ad M0 0) 16 λabB=>
aD (ad r1 0) 2 λUG=>
aD (ad xg 0) 2 λUF=>
aD (ad zl 0) 2 λUE=>
aD (ad r2 0) 2 λUD=>
aY (UG.length=2/\(UF.length=2/\(UE.length=2/\(UD.length=2/\(1=1/\(1=1/\True)))))) (
lK bZ abB (UG++(UF++(UE++(UD++([.u 0,.u 0,.i 0,.i 7,.i 1,.i 0,.i 0,.i 0]:LV))))) λb73=>
br b73 (
aD (ad M1 0) 16 λabA=>
aD (ad r1 0) 2 λUC=>
aD (ad qg 0) 2 λUB=>
aD (ad xg 0) 2 λUA=>
aD (ad r2 0) 2 λUz=>
aY (UC.length=2/\(UB.length=2/\(UA.length=2/\(Uz.length=2/\(1=1/\(1=1/\(1=1/\(1=1/\True)))))))) (
lK bZ abA (UC++(UB++(UA++(Uz++([.u 0,.u 0,.i n1,.i 7,.i 1,.i 2,.i 0,.i 0]:LV))))) λb74=>
br b74 (
lL (ad r6 4) λacP acs af6=>
gp acP acs 0 2 λa32=>
aD a32 2 λabz=>
aD (ad xg 0) 2 λaby=>
lK [.u 0,.u 0] abz aby λb75=>
br b75 (
lL (ad r6 4) λacO acr af5=>
gp acO acr 1 2 λa33=>
aD a33 2 λabx=>
aD (ad qg 0) 2 λabw=>
lK [.u 0,.u 0] abx abw λb76=>
K (.b b76)) (
K (.b false))) (
K (.b false)))) (
K (.b false)))))
def aa.j36(K:VK)(M0 r1 xg zl r2 M1 qg:Nat)(n1:Int)(r6:Nat)(b78:Bool):WK:=
br b78 (
aa.j34 K M0 r1 xg zl r2 M1 qg n1 r6 true) (
lI (ad zl 10) λn57=>
br (n57 !=7) (
aa.j34 K M0 r1 xg zl r2 M1 qg n1 r6 true) (
lI (ad xg 11) λn58=>
aa.j34 K M0 r1 xg zl r2 M1 qg n1 r6 (n58 !=1)))
def aa.j35(K:VK)(M0 r1 xg zl r2 M1 qg:Nat)(n1:Int)(r6:Nat)(b77:Bool):WK:=
br b77 (
aa.j36 K M0 r1 xg zl r2 M1 qg n1 r6 true) (
lI (ad qg 12) λn59=>
aa.j36 K M0 r1 xg zl r2 M1 qg n1 r6 (n59 !=0))
def aa.j37(K:VK)(MZ r1 xf zk r2 MY qg:Nat)(n1:Int)(r6:Nat)(b79:Bool):WK:=
br b79 (
K (.b false)) (
tick (
aD (ad MZ 0) 16 λabv=>
aD (ad r1 0) 2 λUy=>
aD (ad xf 0) 2 λUx=>
aD (ad zk 0) 2 λUw=>
aD (ad r2 0) 2 λUv=>
aY (Uy.length=2/\(Ux.length=2/\(Uw.length=2/\(Uv.length=2/\(1=1/\(1=1/\True)))))) (
lK bZ abv (Uy++(Ux++(Uw++(Uv++([.u 0,.u 0,.i 0,.i 7,.i 1,.i 0,.i 0,.i 0]:LV))))) λb80=>
br b80 (
aD (ad MY 0) 16 λabu=>
aD (ad r1 0) 2 λUu=>
aD (ad qg 0) 2 λUt=>
aD (ad xf 0) 2 λUs=>
aD (ad r2 0) 2 λUr=>
aY (Uu.length=2/\(Ut.length=2/\(Us.length=2/\(Ur.length=2/\(1=1/\(1=1/\(1=1/\(1=1/\True)))))))) (
lK bZ abu (Uu++(Ut++(Us++(Ur++([.u 0,.u 0,.i n1,.i 7,.i 1,.i 2,.i 0,.i 0]:LV))))) λb81=>
br b81 (
lL (ad r6 4) λacN acq af4=>
gp acN acq 0 2 λa36=>
aD a36 2 λabt=>
aD (ad xf 0) 2 λabr=>
lK [.u 0,.u 0] abt abr λb82=>
br b82 (
lL (ad r6 4) λacM acp af3=>
gp acM acp 1 2 λa37=>
aD a37 2 λabq=>
aD (ad qg 0) 2 λabp=>
lK [.u 0,.u 0] abq abp λb83=>
K (.b b83)) (
K (.b false))) (
K (.b false)))) (
K (.b false)))))
def aa.j39(K:VK)(MZ r1 xf zk r2 MY qg:Nat)(n1:Int)(r6:Nat)(b85:Bool):WK:=
br b85 (
aa.j37 K MZ r1 xf zk r2 MY qg n1 r6 true) (
lI (ad zk 10) λn62=>
br (n62 !=7) (
aa.j37 K MZ r1 xf zk r2 MY qg n1 r6 true) (
lI (ad xf 11) λn63=>
aa.j37 K MZ r1 xf zk r2 MY qg n1 r6 (n63 !=1)))
def aa.j38(K:VK)(MZ r1 xf zk r2 MY qg:Nat)(n1:Int)(r6:Nat)(b84:Bool):WK:=
br b84 (
aa.j39 K MZ r1 xf zk r2 MY qg n1 r6 true) (
lI (ad qg 12) λn64=>
aa.j39 K MZ r1 xf zk r2 MY qg n1 r6 (n64 !=0))
def aa.j40(K:VK)(MW r1 xf zk r2 MX qg:Nat)(n1:Int)(r6:Nat)(b86:Bool):WK:=
br b86 (
K (.b false)) (
tick (
aD (ad MW 0) 16 λabo=>
aD (ad r1 0) 2 λUq=>
aD (ad xf 0) 2 λUo=>
aD (ad zk 0) 2 λUn=>
aD (ad r2 0) 2 λUm=>
aY (Uq.length=2/\(Uo.length=2/\(Un.length=2/\(Um.length=2/\(1=1/\(1=1/\True)))))) (
lK bZ abo (Uq++(Uo++(Un++(Um++([.u 0,.u 0,.i 0,.i 7,.i 1,.i 0,.i 0,.i 0]:LV))))) λb87=>
br b87 (
aD (ad MX 0) 16 λabn=>
aD (ad r1 0) 2 λUl=>
aD (ad qg 0) 2 λUk=>
aD (ad xf 0) 2 λUj=>
aD (ad r2 0) 2 λUi=>
aY (Ul.length=2/\(Uk.length=2/\(Uj.length=2/\(Ui.length=2/\(1=1/\(1=1/\(1=1/\(1=1/\True)))))))) (
lK bZ abn (Ul++(Uk++(Uj++(Ui++([.u 0,.u 0,.i n1,.i 7,.i 1,.i 2,.i 0,.i 0]:LV))))) λb88=>
br b88 (
lL (ad r6 4) λacL aco af2=>
gp acL aco 0 2 λa38=>
aD a38 2 λabm=>
aD (ad xf 0) 2 λabl=>
lK [.u 0,.u 0] abm abl λb89=>
br b89 (
lL (ad r6 4) λacK acn af1=>
gp acK acn 1 2 λa39=>
aD a39 2 λabk=>
aD (ad qg 0) 2 λabj=>
lK [.u 0,.u 0] abk abj λb90=>
K (.b b90)) (
K (.b false))) (
K (.b false)))) (
K (.b false)))))
def aa.j42(K:VK)(MW r1 xf zk r2 MX qg:Nat)(n1:Int)(r6:Nat)(b92:Bool):WK:=
br b92 (
aa.j40 K MW r1 xf zk r2 MX qg n1 r6 true) (
lI (ad zk 10) λn67=>
br (n67 !=7) (
aa.j40 K MW r1 xf zk r2 MX qg n1 r6 true) (
lI (ad xf 11) λn68=>
aa.j40 K MW r1 xf zk r2 MX qg n1 r6 (n68 !=1)))
def aa.j41(K:VK)(MW r1 xf zk r2 MX qg:Nat)(n1:Int)(r6:Nat)(b91:Bool):WK:=
br b91 (
aa.j42 K MW r1 xf zk r2 MX qg n1 r6 true) (
lI (ad qg 12) λn69=>
aa.j42 K MW r1 xf zk r2 MX qg n1 r6 (n69 !=0))
def aa.j6(K:VK)(r3 r4 r5 r1 r2:Nat)(n1:Int)(r6:Nat)(b8:Bool):WK:=
br b8 (
K (.b false)) (
tick (
lL (ad r3 1) λsL qG tq=>
gp sL qG 0 14 λa1=>
aD a1 14 λpe=>
lL (ad r3 1) λmg jJ mP=>
gp mg jJ 1 14 λa2=>
aD a2 14 λnc=>
lL (ad r3 1) λqf oP qQ=>
gp qf oP 2 14 λa3=>
aD a3 14 λk9=>
both (
mk cN λr8=>
kp a3 k9 (
kp (ad r3 1) [.l qf oP qQ] (
kp a2 nc (
kp (ad r3 1) [.l mg jJ mP] (
kp a1 pe (
kp (ad r3 1) [.l sL qG tq] (
both (
mk cN λr9=>
kp a3 k9 (
kp (ad r3 1) [.l qf oP qQ] (
kp a2 nc (
kp (ad r3 1) [.l mg jJ mP] (
kp a1 pe (
kp (ad r3 1) [.l sL qG tq] (
mk cN λwi=>
kp a3 k9 (
kp (ad r3 1) [.l qf oP qQ] (
kp a2 nc (
kp (ad r3 1) [.l mg jJ mP] (
kp a1 pe (
kp (ad r3 1) [.l sL qG tq] (
aT 14 (ad r8 0) pe (
kp a3 k9 (
kp (ad r3 1) [.l qf oP qQ] (
kp a2 nc (
kp (ad r3 1) [.l mg jJ mP] (
aT 14 (ad r9 0) nc (
kp a3 k9 (
kp (ad r3 1) [.l qf oP qQ] (
aT 14 (ad wi 0) k9 (
tick (
lL (ad r4 2) λxx wF xY=>
gp xx wF 0 16 λa4=>
aD a4 16 λyR=>
lL (ad r5 2) λJV K8 Lf=>
gp JV K8 0 16 λa5=>
aD a5 16 λxo=>
both (
mk bZ λIp=>
kp a5 xo (
kp (ad r5 2) [.l JV K8 Lf] (
kp a4 yR (
kp (ad r4 2) [.l xx wF xY] (
mk bZ λIo=>
kp a5 xo (
kp (ad r5 2) [.l JV K8 Lf] (
kp a4 yR (
kp (ad r4 2) [.l xx wF xY] (
aT 16 (ad Ip 0) yR (
kp a5 xo (
kp (ad r5 2) [.l JV K8 Lf] (
aT 16 (ad Io 0) xo (
lI (ad r8 12) λRJ=>
br (RJ !=1) (
aa.j8 K Ip r1 r9 r8 r2 Io wi n1 r6 true) (
lI (ad r9 12) λWl=>
aa.j8 K Ip r1 r9 r8 r2 Io wi n1 r6 (Wl !=5))))))))))))))) (
mk bZ λJ5=>
kp a5 xo (
kp (ad r5 2) [.l JV K8 Lf] (
kp a4 yR (
kp (ad r4 2) [.l xx wF xY] (
mk bZ λEF=>
kp a5 xo (
kp (ad r5 2) [.l JV K8 Lf] (
kp a4 yR (
kp (ad r4 2) [.l xx wF xY] (
aT 16 (ad EF 0) yR (
kp a5 xo (
kp (ad r5 2) [.l JV K8 Lf] (
aT 16 (ad J5 0) xo (
lI (ad r8 12) λvD=>
br (vD !=1) (
aa.TX K EF r1 r9 r8 r2 J5 wi n1 r6 true) (
lI (ad r9 12) λn20=>
aa.TX K EF r1 r9 r8 r2 J5 wi n1 r6 (n20 !=5)))))))))))))))))))))))))))))))))))))) (
mk cN λxy=>
kp a3 k9 (
kp (ad r3 1) [.l qf oP qQ] (
kp a2 nc (
kp (ad r3 1) [.l mg jJ mP] (
kp a1 pe (
kp (ad r3 1) [.l sL qG tq] (
mk cN λwh=>
kp a3 k9 (
kp (ad r3 1) [.l qf oP qQ] (
kp a2 nc (
kp (ad r3 1) [.l mg jJ mP] (
kp a1 pe (
kp (ad r3 1) [.l sL qG tq] (
aT 14 (ad r8 0) pe (
kp a3 k9 (
kp (ad r3 1) [.l qf oP qQ] (
kp a2 nc (
kp (ad r3 1) [.l mg jJ mP] (
aT 14 (ad wh 0) nc (
kp a3 k9 (
kp (ad r3 1) [.l qf oP qQ] (
aT 14 (ad xy 0) k9 (
tick (
lL (ad r4 2) λOo Ob Rg=>
gp Oo Ob 0 16 λXV=>
aD XV 16 λG5=>
lL (ad r5 2) λIh H9 Lk=>
gp Ih H9 0 16 λTb=>
aD Tb 16 λG4=>
both (
mk bZ λJ4=>
kp Tb G4 (
kp (ad r5 2) [.l Ih H9 Lk] (
kp XV G5 (
kp (ad r4 2) [.l Oo Ob Rg] (
mk bZ λNf=>
kp Tb G4 (
kp (ad r5 2) [.l Ih H9 Lk] (
kp XV G5 (
kp (ad r4 2) [.l Oo Ob Rg] (
aT 16 (ad J4 0) G5 (
kp Tb G4 (
kp (ad r5 2) [.l Ih H9 Lk] (
aT 16 (ad Nf 0) G4 (
lI (ad r8 12) λn21=>
br (n21 !=1) (
aa.j14 K J4 r1 wh r8 r2 Nf xy n1 r6 true) (
lI (ad wh 12) λn25=>
aa.j14 K J4 r1 wh r8 r2 Nf xy n1 r6 (n25 !=5))))))))))))))) (
mk bZ λNd=>
kp Tb G4 (
kp (ad r5 2) [.l Ih H9 Lk] (
kp XV G5 (
kp (ad r4 2) [.l Oo Ob Rg] (
mk bZ λNc=>
kp Tb G4 (
kp (ad r5 2) [.l Ih H9 Lk] (
kp XV G5 (
kp (ad r4 2) [.l Oo Ob Rg] (
aT 16 (ad Nc 0) G5 (
kp Tb G4 (
kp (ad r5 2) [.l Ih H9 Lk] (
aT 16 (ad Nd 0) G4 (
lI (ad r8 12) λn26=>
br (n26 !=1) (
aa.j17 K Nc r1 wh r8 r2 Nd xy n1 r6 true) (
lI (ad wh 12) λn30=>
aa.j17 K Nc r1 wh r8 r2 Nd xy n1 r6 (n30 !=5))))))))))))))))))))))))))))))))))))))))))))) (
both (
mk cN λoF=>
kp a3 k9 (
kp (ad r3 1) [.l qf oP qQ] (
kp a2 nc (
kp (ad r3 1) [.l mg jJ mP] (
kp a1 pe (
kp (ad r3 1) [.l sL qG tq] (
both (
mk cN λzp=>
kp a3 k9 (
kp (ad r3 1) [.l qf oP qQ] (
kp a2 nc (
kp (ad r3 1) [.l mg jJ mP] (
kp a1 pe (
kp (ad r3 1) [.l sL qG tq] (
mk cN λzo=>
kp a3 k9 (
kp (ad r3 1) [.l qf oP qQ] (
kp a2 nc (
kp (ad r3 1) [.l mg jJ mP] (
kp a1 pe (
kp (ad r3 1) [.l sL qG tq] (
aT 14 (ad zp 0) pe (
kp a3 k9 (
kp (ad r3 1) [.l qf oP qQ] (
kp a2 nc (
kp (ad r3 1) [.l mg jJ mP] (
aT 14 (ad oF 0) nc (
kp a3 k9 (
kp (ad r3 1) [.l qf oP qQ] (
aT 14 (ad zo 0) k9 (
tick (
lL (ad r4 2) λOn Oa Rf=>
gp On Oa 0 16 λa16=>
aD a16 16 λMp=>
lL (ad r5 2) λIg H8 Lj=>
gp Ig H8 0 16 λXU=>
aD XU 16 λG3=>
both (
mk bZ λNb=>
kp XU G3 (
kp (ad r5 2) [.l Ig H8 Lj] (
kp a16 Mp (
kp (ad r4 2) [.l On Oa Rf] (
mk bZ λNa=>
kp XU G3 (
kp (ad r5 2) [.l Ig H8 Lj] (
kp a16 Mp (
kp (ad r4 2) [.l On Oa Rf] (
aT 16 (ad Nb 0) Mp (
kp XU G3 (
kp (ad r5 2) [.l Ig H8 Lj] (
aT 16 (ad Na 0) G3 (
lI (ad zp 12) λn31=>
br (n31 !=1) (
aa.j20 K Nb r1 oF zp r2 Na zo n1 r6 true) (
lI (ad oF 12) λn35=>
aa.j20 K Nb r1 oF zp r2 Na zo n1 r6 (n35 !=5))))))))))))))) (
mk bZ λM'=>
kp XU G3 (
kp (ad r5 2) [.l Ig H8 Lj] (
kp a16 Mp (
kp (ad r4 2) [.l On Oa Rf] (
mk bZ λM9=>
kp XU G3 (
kp (ad r5 2) [.l Ig H8 Lj] (
kp a16 Mp (
kp (ad r4 2) [.l On Oa Rf] (
aT 16 (ad M9 0) Mp (
kp XU G3 (
kp (ad r5 2) [.l Ig H8 Lj] (
aT 16 (ad M' 0) G3 (
lI (ad zp 12) λn36=>
br (n36 !=1) (
aa.j23 K M9 r1 oF zp r2 M' zo n1 r6 true) (
lI (ad oF 12) λn40=>
aa.j23 K M9 r1 oF zp r2 M' zo n1 r6 (n40 !=5)))))))))))))))))))))))))))))))))))))) (
mk cN λzn=>
kp a3 k9 (
kp (ad r3 1) [.l qf oP qQ] (
kp a2 nc (
kp (ad r3 1) [.l mg jJ mP] (
kp a1 pe (
kp (ad r3 1) [.l sL qG tq] (
mk cN λzm=>
kp a3 k9 (
kp (ad r3 1) [.l qf oP qQ] (
kp a2 nc (
kp (ad r3 1) [.l mg jJ mP] (
kp a1 pe (
kp (ad r3 1) [.l sL qG tq] (
aT 14 (ad zm 0) pe (
kp a3 k9 (
kp (ad r3 1) [.l qf oP qQ] (
kp a2 nc (
kp (ad r3 1) [.l mg jJ mP] (
aT 14 (ad oF 0) nc (
kp a3 k9 (
kp (ad r3 1) [.l qf oP qQ] (
aT 14 (ad zn 0) k9 (
tick (
lL (ad r4 2) λOm N' Re=>
gp Om N' 0 16 λa22=>
aD a22 16 λEb=>
lL (ad r5 2) λIe H7 Li=>
gp Ie H7 0 16 λXT=>
aD XT 16 λAs=>
both (
mk bZ λM8=>
kp XT As (
kp (ad r5 2) [.l Ie H7 Li] (
kp a22 Eb (
kp (ad r4 2) [.l Om N' Re] (
mk bZ λM7=>
kp XT As (
kp (ad r5 2) [.l Ie H7 Li] (
kp a22 Eb (
kp (ad r4 2) [.l Om N' Re] (
aT 16 (ad M8 0) Eb (
kp XT As (
kp (ad r5 2) [.l Ie H7 Li] (
aT 16 (ad M7 0) As (
lI (ad zm 12) λn41=>
br (n41 !=1) (
aa.j26 K M8 r1 oF zm r2 M7 zn n1 r6 true) (
lI (ad oF 12) λn45=>
aa.j26 K M8 r1 oF zm r2 M7 zn n1 r6 (n45 !=5))))))))))))))) (
mk bZ λM6=>
kp XT As (
kp (ad r5 2) [.l Ie H7 Li] (
kp a22 Eb (
kp (ad r4 2) [.l Om N' Re] (
mk bZ λM5=>
kp XT As (
kp (ad r5 2) [.l Ie H7 Li] (
kp a22 Eb (
kp (ad r4 2) [.l Om N' Re] (
aT 16 (ad M5 0) Eb (
kp XT As (
kp (ad r5 2) [.l Ie H7 Li] (
aT 16 (ad M6 0) As (
lI (ad zm 12) λn46=>
br (n46 !=1) (
aa.j29 K M5 r1 oF zm r2 M6 zn n1 r6 true) (
lI (ad oF 12) λn50=>
aa.j29 K M5 r1 oF zm r2 M6 zn n1 r6 (n50 !=5))))))))))))))))))))))))))))))))))))))))))))) (
mk cN λqg=>
kp a3 k9 (
kp (ad r3 1) [.l qf oP qQ] (
kp a2 nc (
kp (ad r3 1) [.l mg jJ mP] (
kp a1 pe (
kp (ad r3 1) [.l sL qG tq] (
both (
mk cN λzl=>
kp a3 k9 (
kp (ad r3 1) [.l qf oP qQ] (
kp a2 nc (
kp (ad r3 1) [.l mg jJ mP] (
kp a1 pe (
kp (ad r3 1) [.l sL qG tq] (
mk cN λxg=>
kp a3 k9 (
kp (ad r3 1) [.l qf oP qQ] (
kp a2 nc (
kp (ad r3 1) [.l mg jJ mP] (
kp a1 pe (
kp (ad r3 1) [.l sL qG tq] (
aT 14 (ad zl 0) pe (
kp a3 k9 (
kp (ad r3 1) [.l qf oP qQ] (
kp a2 nc (
kp (ad r3 1) [.l mg jJ mP] (
aT 14 (ad xg 0) nc (
kp a3 k9 (
kp (ad r3 1) [.l qf oP qQ] (
aT 14 (ad qg 0) k9 (
tick (
lL (ad r4 2) λOl N9 Rd=>
gp Ol N9 0 16 λa28=>
aD a28 16 λEa=>
lL (ad r5 2) λIc H6 Lh=>
gp Ic H6 0 16 λXS=>
aD XS 16 λAr=>
both (
mk bZ λM4=>
kp XS Ar (
kp (ad r5 2) [.l Ic H6 Lh] (
kp a28 Ea (
kp (ad r4 2) [.l Ol N9 Rd] (
mk bZ λM3=>
kp XS Ar (
kp (ad r5 2) [.l Ic H6 Lh] (
kp a28 Ea (
kp (ad r4 2) [.l Ol N9 Rd] (
aT 16 (ad M4 0) Ea (
kp XS Ar (
kp (ad r5 2) [.l Ic H6 Lh] (
aT 16 (ad M3 0) Ar (
lI (ad zl 12) λn51=>
br (n51 !=1) (
aa.j32 K M4 r1 xg zl r2 M3 qg n1 r6 true) (
lI (ad xg 12) λn55=>
aa.j32 K M4 r1 xg zl r2 M3 qg n1 r6 (n55 !=5))))))))))))))) (
mk bZ λM1=>
kp XS Ar (
kp (ad r5 2) [.l Ic H6 Lh] (
kp a28 Ea (
kp (ad r4 2) [.l Ol N9 Rd] (
mk bZ λM0=>
kp XS Ar (
kp (ad r5 2) [.l Ic H6 Lh] (
kp a28 Ea (
kp (ad r4 2) [.l Ol N9 Rd] (
aT 16 (ad M0 0) Ea (
kp XS Ar (
kp (ad r5 2) [.l Ic H6 Lh] (
aT 16 (ad M1 0) Ar (
lI (ad zl 12) λn56=>
br (n56 !=1) (
aa.j35 K M0 r1 xg zl r2 M1 qg n1 r6 true) (
lI (ad xg 12) λn60=>
aa.j35 K M0 r1 xg zl r2 M1 qg n1 r6 (n60 !=5)))))))))))))))))))))))))))))))))))))) (
mk cN λxf=>
kp a3 k9 (
kp (ad r3 1) [.l qf oP qQ] (
kp a2 nc (
kp (ad r3 1) [.l mg jJ mP] (
kp a1 pe (
kp (ad r3 1) [.l sL qG tq] (
mk cN λzk=>
kp a3 k9 (
kp (ad r3 1) [.l qf oP qQ] (
kp a2 nc (
kp (ad r3 1) [.l mg jJ mP] (
kp a1 pe (
kp (ad r3 1) [.l sL qG tq] (
aT 14 (ad zk 0) pe (
kp a3 k9 (
kp (ad r3 1) [.l qf oP qQ] (
kp a2 nc (
kp (ad r3 1) [.l mg jJ mP] (
aT 14 (ad xf 0) nc (
kp a3 k9 (
kp (ad r3 1) [.l qf oP qQ] (
aT 14 (ad qg 0) k9 (
tick (
lL (ad r4 2) λOj N8 Rc=>
gp Oj N8 0 16 λa34=>
aD a34 16 λD9=>
lL (ad r5 2) λIb H5 Lg=>
gp Ib H5 0 16 λXR=>
aD XR 16 λAq=>
both (
mk bZ λMZ=>
kp XR Aq (
kp (ad r5 2) [.l Ib H5 Lg] (
kp a34 D9 (
kp (ad r4 2) [.l Oj N8 Rc] (
mk bZ λMY=>
kp XR Aq (
kp (ad r5 2) [.l Ib H5 Lg] (
kp a34 D9 (
kp (ad r4 2) [.l Oj N8 Rc] (
aT 16 (ad MZ 0) D9 (
kp XR Aq (
kp (ad r5 2) [.l Ib H5 Lg] (
aT 16 (ad MY 0) Aq (
lI (ad zk 12) λn61=>
br (n61 !=1) (
aa.j38 K MZ r1 xf zk r2 MY qg n1 r6 true) (
lI (ad xf 12) λn65=>
aa.j38 K MZ r1 xf zk r2 MY qg n1 r6 (n65 !=5))))))))))))))) (
mk bZ λMX=>
kp XR Aq (
kp (ad r5 2) [.l Ib H5 Lg] (
kp a34 D9 (
kp (ad r4 2) [.l Oj N8 Rc] (
mk bZ λMW=>
kp XR Aq (
kp (ad r5 2) [.l Ib H5 Lg] (
kp a34 D9 (
kp (ad r4 2) [.l Oj N8 Rc] (
aT 16 (ad MW 0) D9 (
kp XR Aq (
kp (ad r5 2) [.l Ib H5 Lg] (
aT 16 (ad MX 0) Aq (
lI (ad zk 12) λn66=>
br (n66 !=1) (
aa.j41 K MW r1 xf zk r2 MX qg n1 r6 true) (
lI (ad xf 12) λn70=>
aa.j41 K MW r1 xf zk r2 MX qg n1 r6 (n70 !=5))))))))))))))))))))))))))))))))))))))))))))))))
def aa.j47(K:VK)(r3 r4 r5 r1 r2:Nat)(n1:Int)(r6:Nat)(b97:Bool):WK:=
br b97 (
aa.j6 K r3 r4 r5 r1 r2 n1 r6 true) (
lL (ad r5 2) λago acm af0=>
br ((acm:Int)!=1) (
aa.j6 K r3 r4 r5 r1 r2 n1 r6 true) (
lL (ad r6 4) λagn ack afZ=>
aa.j6 K r3 r4 r5 r1 r2 n1 r6 ((ack:Int)!=2)))
def aa.j46(K:VK)(r3 r4 r5 r1 r2:Nat)(n1:Int)(r6:Nat)(b96:Bool):WK:=
br b96 (
aa.j47 K r3 r4 r5 r1 r2 n1 r6 true) (
lL (ad r4 2) λagm acj afY=>
aa.j47 K r3 r4 r5 r1 r2 n1 r6 ((acj:Int)!=1))
def aa.j45(K:VK)(r3 r4 r5 r1 r2:Nat)(n1:Int)(r6:Nat)(b95:Bool):WK:=
br b95 (
aa.j46 K r3 r4 r5 r1 r2 n1 r6 true) (
lL (ad r3 1) λagl aci afX=>
aa.j46 K r3 r4 r5 r1 r2 n1 r6 ((aci:Int)!=3))
def aa.j44(K:VK)(r3 r4 r5 r1 r2:Nat)(n1:Int)(r6:Nat)(n5:Int)(b94:Bool):WK:=
br b94 (
aa.j45 K r3 r4 r5 r1 r2 n1 r6 true) (
aa.j45 K r3 r4 r5 r1 r2 n1 r6 (n5 !=0))
def aa.j43(K:VK)(r3 r4 r5 r1 r2:Nat)(n1:Int)(r6:Nat)(n5 n4:Int)(b93:Bool):WK:=
br b93 (
aa.j44 K r3 r4 r5 r1 r2 n1 r6 n5 true) (
aa.j44 K r3 r4 r5 r1 r2 n1 r6 n5 (n4 !=0))
def aa.j1(K:VK)(s1 s2:BA)(n2:Int)(r3 r4 r5 r6:Nat)(n5 n4 n3:Int)(r1 r2:Nat)(n1:Int)(b2:Bool):WK:=
br b2 (
K (.b false)) (
dE s1 s2 0 (xB λb3=>
br (!b3) (
br (n2==1) (
aa.j3 K r3 r4 r5 r6 n5 n4 (n3==1)) (
aa.j3 K r3 r4 r5 r6 n5 n4 false)) (
br (n2 !=0) (
aa.j43 K r3 r4 r5 r1 r2 n1 r6 n5 n4 true) (
aa.j43 K r3 r4 r5 r1 r2 n1 r6 n5 n4 (n3 !=0)))))
def aa(s1 s2:BA)(pA uE:LV)(n1:Int)(K:VK):WK:=
mk pA λr1=>
mk uE λr2=>
gF (xB λb1=>
br (!b1) (
K (.b false)) (
br (decide ((ag.wrap ((s1.size:Int)+(s2.size:Int)))>100)) (
K (.b true)) (
iO s1 s2 (x2 λv1 v2=>(xA 13 λsR=>
(xI .i64 λn2=>
mk bR λr3=>
aT 13 (ad r3 0) sR (
aD (ad r1 0) 2 λqL=>
aD (ad r2 0) 2 λs7=>
mo qL s1 s2 s7 (x2 λv3 v4=>(xA 13 λsY=>
(xI .i64 λn3=>
mk bR λr4=>
aT 13 (ad r4 0) sY (
aD (ad r1 0) 2 λA6=>
aD (ad r2 0) 2 λCn=>
qe A6 s1 s2 Cn n1 (x2 λv5 v6=>(xA 13 λI6=>
(xI .i64 λn4=>
mk bR λr5=>
aT 13 (ad r5 0) I6 (
vX s1 s2 (x2 λv7 v8=>(xA 13 λxp=>
(xI .i64 λn5=>
mk bR λr6=>
aT 13 (ad r6 0) xp (
aD (ad r1 0) 2 λCo=>
aD (ad r2 0) 2 λE5=>
fj Co s1 s2 s2 E5 (x2 λv9 v10=>(xA 13 λE4=>
(xI .i64 λn6=>
mk bR λr7=>
aT 13 (ad r7 0) E4 (
br (n6 !=1) (
aa.j1 K s1 s2 n2 r3 r4 r5 r6 n5 n4 n3 r1 r2 n1 true) (
lI (ad r7 0) λn71=>
aa.j1 K s1 s2 n2 r3 r4 r5 r6 n5 n4 n3 r1 r2 n1 (n71 !=0)))) v10) v9))) v8) v7))) v6) v5))) v4) v3))) v2) v1))))
end Go.Prog
namespace Go.Up
open Go.Sep Go.Den Go.RowKit Go.Prog Go.Md Go.bE
def YY(id:Nat)(good site:List UInt8)(n:Nat)(k:Int):cj:=⟨id,cE good site 2,cE good site 1,n,0,k,7,1,2,0,0⟩
abbrev S7(r:Nat):LV:=[.i 4,.l none 0 0,.l none 0 0,.i 0,.l (ai r) 2 2,.u 0,.u 0,.i 0,.i 0,.b false,.b false,.b false,.i 0]
def S6(r:Nat):∀v∈S7 r,v.oneCell'=true:=λv hv=>by
 unfold S7 at hv
 repeat (first|(rcases gK.1 hv with rfl|hv;·rfl)|cases hv)
instance{r:Nat}:Ln (S7 r) 13:=⟨rfl⟩
instance{r:Nat}:Sub (S7 r) 0 13 (S7 r):=⟨rfl,λj v h=>by rw[az];exact h⟩
instance{k:Int}{b:OA}{n c r:Nat}:Wr (mY k b n c) 0 (S7 r) (S7 r):=⟨rfl,aC _,S6 r⟩
abbrev Wo(b:OA)(c:Nat):LV:=[.i 2,.l none 0 0,.l b 1 c,.i 0,.l none 0 0,.u 0,.u 0,.i 0,.i 0,.b false,.b false,.b false,.i 0]
def RL(b:OA)(c:Nat):∀v∈Wo b c,v.oneCell'=true:=λv hv=>by
 unfold Wo at hv
 repeat (first|(rcases gK.1 hv with rfl|hv;·rfl)|cases hv)
instance{b:OA}{c:Nat}:Ln (Wo b c) 13:=⟨rfl⟩
instance{k:Int}{b b':OA}{n c c':Nat}:Wr (mY k b n c) 0 (Wo b' c') (Wo b' c'):=⟨rfl,aC _,RL b' c'⟩
section
variable {W:World} {L R M:LH} {K:VK} {X:WK} {n p s g:Nat} {good site:List UInt8} {id num:Nat} {k:Int}
def Dv:nm id++(nm (cE good site 2)++(nm (cE good site 1)++(nm num++[.u 0,.u 0,.i k,.i 7,.i 1,.i 2,.i 0,.i 0])))=aX (YY id good site num k):=by
 unfold aX YY;rw[OS]
 rfl
def Ei(hg:good.length<1099511627776)(hs:site.length<1099511627776)
 (h0:cO good site=false->T W L (K (.tuple ⟨[.agg ⟨ff q0 s0⟩,.i 1]⟩)))
 (h1:cO good site=true->∀r,T W (Sep.pt r (aX (YY id good site num k))::L) (K (.tuple ⟨[.agg ⟨ff (Ng (YY id good site num k)) ⟨none,0,ai r,1,none,0⟩⟩,.i 0]⟩))):
 T W L (qe (nm id) (bs good) (bs site) (nm num) k K):=by
 unfold qe;refine jy λr1=>?_;refine jy λr2=>?_;refine jy λr3=>?_;refine tt hg hs ?_;cases hp:cO good site with
 |false=>
  show T W (Sep.pt r3 (mY 0 none 0 0)::_) _;rw[ah (show ¬(false=true) by decide)];apply ws;intros;apply hG (by decide);apply ws;exact T.sub (h0 hp) (by exact sg)
 |true=>
  rw[aj (show true=true from rfl)];have h1:=h1 hp;show T W (Sep.pt r3 (ff q0 s0)::_) _;apply ws;intros;rename_i r4;apply cW (by decide);apply ws;refine dv (by decide) ?_;rw[show(ad r4 0).add ((2:Int).toNat* 2)=⟨r4,4,none⟩ from by show(⟨r4,0,none⟩:Addr).add 4=_;rw[dh]];apply ws;refine dv (by decide) ?_;rw[show(ad r4 0).add ((1:Int).toNat* 2)=⟨r4,2,none⟩ from by show(⟨r4,0,none⟩:Addr).add 2=_;rw[dh]];apply ws;rw[Dv];refine TP λr5=>?_;apply ws;exact T.sub (h1 r5) (by exact sg)
def Vi(hg:good.length<1099511627776)(hs:site.length<1099511627776)
 (h0:cO good site=false->T W L (K (.tuple ⟨[.agg ⟨ff q0 s0⟩,.i 1]⟩)))
 (h1:cO good site=true->∀r,T W (Sep.pt r (nm (cE good site 1)++nm (cE good site 2))::L) (K (.tuple ⟨[.agg ⟨S7 r⟩,.i 0]⟩))):
 T W L (vX (bs good) (bs site) K):=by
 unfold vX;refine jy λr3=>?_;refine tt hg hs ?_;cases hp:cO good site with
 |false=>
  show T W (Sep.pt r3 (mY 0 none 0 0)::_) _;rw[ah (show ¬(false=true) by decide)];apply ws;intros;apply hG (by decide);apply ws;exact T.sub (h0 hp) (by exact sg)
 |true=>
  rw[aj (show true=true from rfl)];have h1:=h1 hp;show T W (Sep.pt r3 (mY 0 none 0 0)::_) _;apply ws;intros;rename_i r4;apply cW (by decide);refine dv (by decide) ?_;rw[show(ad r4 0).add ((1:Int).toNat* 2)=⟨r4,2,none⟩ from by show(⟨r4,0,none⟩:Addr).add 2=_;rw[dh]];apply ws;refine dv (by decide) ?_;rw[show(ad r4 0).add ((2:Int).toNat* 2)=⟨r4,4,none⟩ from by show(⟨r4,0,none⟩:Addr).add 4=_;rw[dh]];apply ws;intros;rename_i r5;rw[bN];exact T.sub (h1 r5) (by exact sg)
def Vd{c:Nat}(hc:c<18446744073709551616)(h:T W L (K (.agg ⟨nm c⟩))):T W L (xJ (c:Int) K):=by
 unfold xJ;have e:([.u 0,.u (c:Int)]:LV)=nm c:=by
  unfold nm;rw[Nat.div_eq_of_lt hc,eX hc]
  rfl
 rw[e];refine jy λr=>?_;show T W (Sep.pt r (nm 0)::_) _;apply ws;exact T.drop h
def CH(hg:good.length<1099511627776)(hs:site.length<1099511627776)(Cd:id<bV)
 (h:T W L (K (.tuple ⟨[.agg ⟨ff q0 s0⟩,.i 1]⟩))):
 T W L (fj (nm id) (bs good) (bs site) (bs site) (nm num) K):=by
 unfold fj;refine jy λr1=>?_;refine jy λr2=>?_;refine jy λr3=>?_;refine tt hg hs ?_;cases hp:cO good site with
 |false=>
  show T W (Sep.pt r3 (mY 0 none 0 0)::_) _;rw[ah (show ¬(false=true) by decide)];apply ws;intros;apply hG (by decide);apply ws;exact T.sub h (by exact sg)
 |true=>
  rw[aj (show true=true from rfl)];show T W (Sep.pt r3 (mY 0 none 0 0)::_) _;apply ws;intros;rename_i r4;apply cW (by decide);refine tt hg hs ?_;rw[hp,aj (show true=true from rfl)];have e1:me (bs site) (bs site)=true:=by rw[tf];exact aA rfl
  rw[e1];apply ws;intros;rename_i r5;refine ze ?_ ?_
  ·refine Vd (c:=1) (by decide) ?_;apply ws;refine ze ?_ ?_
   ·refine vV Cd (by decide) ?_;apply ws;intros;rename_i r6;apply cW (by decide);refine dz (λ_=>?_) (λ_=>?_)<;>(
     unfold fj.j1
     apply ib
     apply ws
     exact T.sub h (by exact sg))
   ·apply ws;intros;rename_i r6;refine vV Cd (by decide) ?_;apply ws;apply cW (by decide);refine dz (λ_=>?_) (λ_=>?_)<;>(
     unfold fj.j2
     apply ib
     apply ws
     exact T.sub h (by exact sg))
  ·apply ws;intros;rename_i r6;refine Vd (c:=1) (by decide) ?_;apply ws;refine vV Cd (by decide) ?_;apply ws;apply cW (by decide);refine dz (λ_=>?_) (λ_=>?_)<;>(
    unfold fj.j3
    apply ib
    apply ws
    exact T.sub h (by exact sg))
end
section
variable {W:World} {L:LH} {K:VK} {good a:List UInt8} {id num x y w hd g r1 r2 r6 b6:Nat} {k:Int}
instance{z:bp}:Gt (aP z) 10 (.i z.bt):=⟨rfl⟩
instance{z:bp}:Gt (aP z) 11 (.i z.code):=⟨rfl⟩
instance{z:bp}:Gt (aP z) 12 (.i z.au):=⟨rfl⟩
instance{p q:Nat}:Sub (nm p++nm q) 0 2 (nm p):=⟨sJ rfl rfl⟩
instance{p q:Nat}:Sub (nm p++nm q) 2 2 (nm q):=⟨sJ rfl rfl⟩
def KO(K:VK)(x r1 hd w r2 y g:Nat)(k:Int)(r6:Nat)(RJ:Int):WK:=
 br (RJ !=1) (aa.j8 K x r1 hd w r2 y g k r6 true) (
 lI (ad hd 12) λWl=>aa.j8 K x r1 hd w r2 y g k r6 (Wl !=5))
def MI{M:LH}{f1 f2 f3 f4 f5 f6 f7 f8 f9:LV->LH}[Lc (Sep.pt y) M (aX (YY id good a num k)) f1][Lc (Sep.pt x) M (aX (TL id good a num)) f2][Lc (Sep.pt w) M (aP (l6 good a 0 1)) f3][Lc (Sep.pt hd) M (aP (l6 good a 1 5)) f4]
 [Lc (Sep.pt g) M (aP (l6 good a 2 0)) f5][Lc (Sep.pt r6) M (S7 b6) f6][Lc (Sep.pt b6) M (nm (cE good a 1)++nm (cE good a 2)) f7][Lc (Sep.pt r2) M (nm num) f8][Lc (Sep.pt r1) M (nm id) f9](h:T W M (K (.b true))):
 T W M
   (KO K x r1 hd w r2 y g k r6 (l6 good a 0 1).au):=by
 unfold KO;apply cW rfl;apply ws;unfold aa.j8;apply cW rfl;apply ws;unfold aa.j9;apply cW rfl;apply ws;apply cW rfl;apply ws;unfold aa.j7;apply cW rfl;apply ws;rw[show(l6 good a 1 5).id=cE good a 1 from rfl,show(l6 good a 0 1).id=cE good a 0 from rfl,DB];refine NU ?_;refine hG (aA rfl) ?_;apply ws;rw[show(l6 good a 1 5).id=cE good a 1 from rfl,show(l6 good a 2 0).id=cE good a 2 from rfl,Dv];refine NU ?_;refine hG (aA rfl) ?_;apply ws;refine nM ⟨by decide,by decide⟩ ?_;show T W _ (aD ⟨b6,0,none⟩ 2 _);apply ws;refine hG (aA rfl) ?_;apply ws;refine nM ⟨by decide,by decide⟩ ?_;show T W _ (aD ⟨b6,2,none⟩ 2 _);apply ws;rw[aA (show cE good a 2=(l6 good a 2 0).id from rfl)];exact h
end
def Hu{W:World}{L:LH}{K:VK}{good a:List UInt8}{id num:Nat}{k:Int}(G:nX W)(hg:(bs good).size<=reachBytes)(ha:(bs a).size<=reachBytes)(Cd:id<bV)(sQ:num<bV)(h:T W L (K (.b true))):
 T W L (aa (bs good) (bs a) (nm id) (nm num) k K):=by
 have L4:reachBytes<=140737488355328:=by decide
 unfold aa;refine jy λr1=>?_;refine jy λr2=>?_;refine zQ G (mO (Es ?_));rw[bn] at hg ha;rw[bn,bn,aS (n:=(good.length:Int)+(a.length:Int)) (by omega)];refine gO (λg0=>T.sub h (by exact sg)) (λg0=>?_);cases hp:cO good a with
 |false=>
  refine Fo (by omega) (by omega) (λ_=>?_) (λhh=>by rw[hp] at hh;cases hh);show T W _ (x2 _ (.tuple ⟨[.agg ⟨mY 0 none 0 0⟩,_]⟩));apply ws;intros;rename_i r3;refine zU (by omega) (by omega) (λ_=>?_) (λhh=>by rw[hp] at hh;cases hh);show T W _ (x2 _ (.tuple ⟨[.agg ⟨mY 0 none 0 0⟩,_]⟩));apply ws;intros;rename_i r4;refine Ei (by omega) (by omega) (λ_=>?_) (λhh=>by rw[hp] at hh;cases hh);show T W _ (x2 _ (.tuple ⟨[.agg ⟨mY 0 none 0 0⟩,_]⟩));apply ws;intros;rename_i r5;refine Vi (by omega) (by omega) (λ_=>?_) (λhh=>by rw[hp] at hh;cases hh);show T W _ (x2 _ (.tuple ⟨[.agg ⟨mY 0 none 0 0⟩,_]⟩));apply ws;intros;rename_i r6;refine CH (by omega) (by omega) Cd ?_;show T W _ (x2 _ (.tuple ⟨[.agg ⟨mY 0 none 0 0⟩,_]⟩));apply ws;intros;rename_i r7;apply cW (by decide);apply ws;unfold aa.j1;apply fG;refine rZ (by omega) (by omega) ?_;rw[hp];refine mO (VN ?_);apply hG (by decide);unfold aa.j3;apply ib;unfold aa.j4;apply ib;unfold aa.j5;apply ib;apply ws;unfold aa.j2;exact T.sub h (by exact sg)
 |true=>
  refine Fo (by omega) (by omega) (λhh=>by rw[hp] at hh;cases hh) (λ_ ab ac=>?_);rw[Dr];apply ws;intros;rename_i r3;refine zU (by omega) (by omega) (λhh=>by rw[hp] at hh;cases hh) (λ_ b4=>?_);rw[zv];show T W _ (x2 _ (.tuple ⟨[.agg ⟨Wo _ _⟩,_]⟩));apply ws;intros;rename_i r4;refine Ei (by omega) (by omega) (λhh=>by rw[hp] at hh;cases hh) (λ_ b5=>?_);rw[zv];show T W _ (x2 _ (.tuple ⟨[.agg ⟨Wo _ _⟩,_]⟩));apply ws;intros;rename_i r5;refine Vi (by omega) (by omega) (λhh=>by rw[hp] at hh;cases hh) (λ_ b6=>?_);apply ws;intros;rename_i r6;refine CH (by omega) (by omega) Cd ?_;show T W _ (x2 _ (.tuple ⟨[.agg ⟨mY 0 none 0 0⟩,_]⟩));apply ws;intros;rename_i r7;apply cW (by decide);apply ws;unfold aa.j1;apply fG;refine rZ (by omega) (by omega) ?_;rw[hp];refine mO (Es ?_);apply cW (by decide);unfold aa.j43;apply fG;unfold aa.j44;apply fG;unfold aa.j45;apply fG;apply ws;unfold aa.j46;apply fG;apply ws;unfold aa.j47;apply cW (by decide);apply ws;apply cW (by decide);apply ws;unfold aa.j6;apply cW (by decide);have hr:kF W (own ab 3 ac 14 (List.flatMap aP (BB good a).aB)::Sep.pt r2 (nm num)::Sep.pt r1 (nm id)::L) aP 14 ab [l6 good a 0 1,l6 good a 1 5,l6 good a 2 0]:=Lw (λ_=>rfl);apply ws;refine iu hr ⟨by decide,by show(0:Int)<3;decide⟩ rfl λp QM=>?_;show T W _ (aD (p.add (0* 14)) 14 _);apply je hr QM (x:=l6 good a 0 1) rfl rfl;apply ws;refine iu hr ⟨by decide,by show(1:Int)<3;decide⟩ rfl λp2 AK=>?_;show T W _ (aD (p2.add (1* 14)) 14 _);apply je hr AK (x:=l6 good a 1 5) rfl rfl;apply ws;refine iu hr ⟨by decide,by show(2:Int)<3;decide⟩ rfl λp3 Zx=>?_;show T W _ (aD (p3.add (2* 14)) 14 _);apply je hr Zx (x:=l6 good a 2 0) rfl rfl
  repeat' first|apply ws;intros|apply wb|refine tX (i:=2) (x:=l6 good a 2 0) hr Zx rfl ?_|refine tX (i:=1) (x:=l6 good a 1 5) hr AK rfl ?_|refine tX (i:=0) (x:=l6 good a 0 1) hr QM rfl ?_
  all_goals
   refine nM ⟨by decide,by decide⟩ ?_;rw[show(0:Int).toNat* 16=0 from rfl];apply ws;refine nM ⟨by decide,by decide⟩ ?_;rw[show(0:Int).toNat* 16=0 from rfl];apply ws;refine ze ?_ ?_<;>(
    apply ws;intros
    exact MI (good:=good) (a:=a) (num:=num) (id:=id) (b6:=b6) (T.sub h (by exact sg)))
end Go.Up
namespace Go.Proofs.YtfijieggfhnpeaaGreatDoor
open Go.Sep Go.Den Go.RowKit Go.Prog Go.Up
def e5:aE P 5 (U [.s,.s,.g,.g,.n] aa):=ua (tk e8 (tk e11 (tk e16 (tk e17 (tk e18 (tk e19 (tk e20 t0))))))) Tryz.func5
def Ev{W:World}{a0:BA}{a1:BA}{a2:LV}{a3:LV}{a4:Int}(G:nX W)(w0:a0.size<=reachBytes)(w1:a1.size<=reachBytes)(l2:a2.length=[kU,kU].length)(y2:Typed [kU,kU] a2 0)(l3:a3.length=[kU,kU].length)(y3:Typed [kU,kU] a3 0):
 U [.s,.s,.g,.g,.n] aa [.s a0,.s a1,.agg ⟨a2⟩,.agg ⟨a3⟩,.i a4] (λv w'=>v=.b true/\Below W.heap.size W w') W:=by
 obtain⟨n2,h2,rfl⟩:=Gl l2 y2;obtain⟨n3,h3,rfl⟩:=Gl l3 y3;exact Hu (K:=λv w'=>v=.b true/\Below W.heap.size W w') (W:=W) (L:=[]) G (good:=a0.data.toList) w0 (a:=a1.data.toList) w1 h2 h3 (λw hs=>⟨rfl,hs.1⟩) W (St.start W)
end Go.Proofs.YtfijieggfhnpeaaGreatDoor
