/- A part of the proof: what the functions compute. -/
import Derived.Test.YtpdbjkgnmjnebaaGreatDoorDataA
import Derived.Test.YtpdbjkgnmjnebaaGreatDoorWalkA
import Derived.Test.YtpdbjkgnmjnebaaGreatDoorWalkB
import Derived.Test.YtpdbjkgnmjnebaaGreatDoorWalkC
import Derived.Test.YtpdbjkgnmjnebaaGreatDoorExtA
set_option linter.all false
open Go.Proofs.Tryz renaming prog→gP
open Go.Abs.AV renaming any→qA
noncomputable section
open Go.Proofs.Tryz
namespace Go.Abs
variable {m:Nat}
variable (n:Nat)
open Go.Proofs
attribute [go_sem] f159 f169 f9 f232 f330 f212 f95 f107 f69 f188 f325 f71 f132 f133 f134 f189 f233 f44 f86 f87 f92 f156 f211 f250 f282 f304 f319 f320 f329 f334 f338 f347 f348 f89 f47 f57 f15 f17 f13
set_option maxRecDepth 100000
set_option maxHeartbeats 4000000
@[go_sem]def aiV:ua:=⟨[],[],(zT (lA kz.row)::zA::zA::zA::zK::lH (l7 (zA::zA::[]))),[],none,none⟩
@[reducible] def aaM:kK (Int×Int):=nh gP f159 n (l1 gP [.tmp 2,.tmp 3] (Qr (lr .i64) (lr .i64))) (cd:=Bp [(215,pR (nP (lA kz.row) (kZ kz.kv) (lr .i64) (aep n)))]) (qj:=oz [([0,1,0,1,1],aiV)]) (uz:=l2 []) (uC:=l2 [])
@[go_sem]def avG:so (aaM n) [0,0,0,1,0,0,1,0,1,1]=true:=jN
@[go_sem]abbrev aiW(v0:List kz)(v1:Int):jS:=⟨(.kF false 23 (mp kz.cells v0)::qA::qA::qA::.int .i64 v1::lK (mm (qA::qA::[]))),[],0,[]⟩
abbrev aiX:=(List kz)->Int->Option (Int×Int)
abbrev at3(K:List Kt)(Z:aiX):Prop:=∀v0 v1,run (aaM n) K (aiW v0 v1)=Z v0 v1
def HT:LB (at3 n) [0,1,0,1,1] [.qg 0,.cut [1,1,1],.at [1,1,1]]:=mB
def HU:Nat->aiX:=ui ((HT n).1)
def acE{n:Nat}:HU n (m+1)=(HT n).1 (HU n m):=rfl
@[go_sem]def aoi(m:Nat):=vi (HT n) (HU n) m
def aaN:Jx (aaM n) (lA kz.row) 27:=mB
def Ze:=fu fun n=>(aaN n).1
def at4:∀n:Nat,uj gP 159 (lA kz.row) (Qr (lr .i64) (lr .i64)) (Ze n):=ww fun n=>uU (aaN n) (gd jT (lC (qk (avF n)) jU)) func159 ntmps159 results159
@[reducible] def afL:kK (kj×Int):=nh gP f169 n (l1 gP [.cell 4 9,.cell 5 28] (Qr mo (lr .i64))) (cl:=l6 [(141,nq mo mw (VB n)),(219,nq (kZ kH.kv) (alE 259 (uL kH.kv)) (Kz n)),(221,nP (kZ kH.kv) mo mw (A7 n)),(222,nP (kZ kH.kv) mo (lA kW) (Vs n)),(259,UM (Gz n))]) (js:=aFV [([0,1,0,1,1],[(1,.ret)])])
@[go_sem]def aoj:lkM (afL n) [0,1,0,1,1]=ow:=rfl
attribute [go_sem] Ba
def Ua:Ll (afL n) (kZ kH.kv) mo 41:=mB
def QK:=fu fun n=>(Ua n).1
def apI:∀n:Nat,uu gP 169 (kZ kH.kv) mo (Qr mo (lr .i64)) (QK n):=yu fun n=>we (Ua n) (gd (jQ (lB (adT n)) (jQ (lB (alR n)) (jQ (lw (NR n)) (jQ (lw (arB n)) (jQ (mV (aiT n)) jT))))) jU) func169 ntmps169 results169
@[reducible] def Xm:kK ((List jR)×Int):=nh gP f9 n (l1 gP [.tmp 4,.tmp 5] (Qr (lA jR.row) (lr .i64))) (cl:=l6 [(36,HR (KZ n)),(37,Ah [] sM (asT (lA kW) IJ) (uf (aQL true kW) sM) (rsA 0 (fun(b:Tf)=>b.1.length) F8) (fun(b:Unit) a=>(tI n) a.1))]) (cp:=Az [(35,EK (IC n))]) (wx:=l2 [35]) (uz:=l2 []) (uC:=l2 [38]) (ce:=aAl [(38,aC4 (asT (lA jR.row) IJ) (uf (aQL true jR.row) sM) (rsA 0 (fun(b:TH)=>b.1.length) F8) (fun a=>(Ls n) a.1))])
@[go_sem]def at5:so (Xm n) [0,1,1,1,1,1]=true:=jN
@[go_sem]def at6:auY (Xm n) [0,1,1,1,1,1] 1 4 2 4:=⟨jN,jN⟩
def aiY:Ll (Xm n) (lA jR.row) (kZ jR.kv) 31:=mB2
def aok:=fu fun n=>(aiY n).1
def arC:∀n:Nat,uu gP 9 (lA jR.row) (kZ jR.kv) (Qr (lA jR.row) (lr .i64)) (aok n):=yu fun n=>we (aiY n) (gd (jQ (mV (Pt n)) (jQ (pq (fun b a r h=>(AJ n) a.1 r h)) jT)) jU (e:=(am8 (aEE (fun a=>⟨(lA jR.row).nb 0 _,trivial⟩) (fun a r h=>(Wg n) a.1 r h)) ap6)) (p:=(kB (k7 (Jo n)) lZ))) func9 ntmps9 results9
def Zf:ua:=⟨[],[],(zA::zA::zA::zK::l7 (zK::l7 (l7 (l7 (zA::zA::zA::zT (lA jR.row)::zK::zK::lH (l7 (l7 (l7 (zA::zA::[]))))))))),[oT Syntax.kv,oD,oD,oD,oD,oM (kZ jR.kv),oC [zK]],none,none⟩
@[reducible] def DK:kK ((List Syntax)×Int):=nh gP f232 n (l1 gP [.tmp 4,.tmp 5] (Qr (lA Syntax.row) (lr .i64))) (cl:=l6 [(268,am9 1 true 8 (Ce (zN n)))]) (qj:=oz [([0,1,0,1,1,1],Zf)]) (cp:=Az [(35,EK (IC n))]) (wx:=l2 [35]) (uz:=l2 []) (uC:=l2 [])
def apJ:anm (DK n) [0,1,0,0,1,1,0,0,1,0,1,1,1] [0,1,1,1,0,0,1,1,0,0,1,0,1,1,1]:=⟨jN,jN⟩
def apK:xR (DK n) [0,1,0,0,1,1,0,0,1,0,1,1,1] 3 11 5 11 6 11 10 11/\aDH (DK n) [0,1,1,1,0,0,1,1,0,0,1,0,1,1,1] 3 7 5 7 6 7:=⟨⟨jN,jN,jN,jN⟩,jN,jN,jN⟩
attribute [go_sem] apJ apK Zf
@[go_sem]abbrev Zg(v0:List jR)(v1 v2:Int)(o0:Syntax)(r5:List (kj×jR)):jS:=⟨(qA::qA::qA::.ptr 0 0::mm (.ptr 6 0::mm (mm (mm (qA::qA::qA::.kF false 4 (mp jR.cells v0)::.int .i64 v1::.int .i64 v2::lK (mm (mm (mm (qA::qA::[]))))))))),[.cells (Syntax.cells o0),.vZ,.vZ,.vZ,.vZ,.map (mp (PX (kZ jR.kv)) r5),.cells [.map 5]],0,[]⟩
abbrev Zh:=(List jR)->Int->Int->Syntax->Tb->Option ((List Syntax)×Int)
abbrev aol(K:List Kt)(Z:Zh):Prop:=∀v0 v1 v2 o0 r5,run (DK n) K (Zg v0 v1 v2 o0 r5)=Z v0 v1 v2 o0 r5
def Oa:LB (aol n) [0,1,0,1,1,1] [.qg 0,.cut [1,1,1,1],.at [1,1,1,1]]:=mB2
def Ob:Nat->Zh:=ui ((Oa n).1)
def aBS{n:Nat}:Ob n (m+1)=(Oa n).1 (Ob n m):=rfl
@[go_sem]def aiZ(m:Nat):=vi (Oa n) (Ob n) m
def acF:Ll (DK n) (lA jR.row) (kZ Syntax.kv) 57:=mB2
def ai0:=fu fun n=>(acF n).1
def aom:∀n:Nat,uu gP 232 (lA jR.row) (kZ Syntax.kv) (Qr (lA Syntax.row) (lr .i64)) (ai0 n):=yu fun n=>we (acF n) (gd (jQ (abg (mV (IZ n))) jT) jU (p:=(kB (k7 (Jo n)) lZ))) func232 ntmps232 results232
@[go_sem]def u6:ua:=⟨[],[],(zK::zK::zA::zA::zK::l7 (l7 (zA::zA::[]))),[oT jP.kv,oC [zK],oC [zK],oA jX.row],none,none⟩
@[go_sem]def py:=(lX 0 (alF 331 (vlP 1 (vlP 2 vlN)) kJ))
@[go_sem]def lm:=(tz (Bq (aQO jP.kv 6 kJ)) (tz (Bq (alA 3 kJ)) (tz (Bq (lX 0 kJ)) (tz (ogA true jX.row) Bn))))
@[go_sem]abbrev pH(F:jP->Tk->Option TA)(b:(Te×(Unit×(Unit×(Tk×Unit)))))(a:(Unit×Unit)):=F b.1.1 b.2.2.2.1
@[go_sem]def vn(F:jP->Tk->Option TA):=xu true [.arg 0 [],.arg 1 [0],.arg 1 [1],.vA 1 0 []] lm py lm kJ lm j1 (pH F)
@[reducible] def vo:kK TA:=nh gP f330 n (qL gP [] [] [0,1,2,3] 4 lm kJ) (cl:=l6 [(153,Ah [0] (uf (Ax jP.kv) sM) (XA 0 (asT mo IJ)) (uf (Ax jP.kv) sM) (VQ mw F8) (fun(b:Te) a=>(nM n) b.1 a.1))]) (qj:=oz [([0,1],u6)]) (rk:=qM [] [0,1,2,3] 4 lm j1) (cp:=Az [(82,mb (nW n)),(331,Kj (N7 n))]) (wx:=l2 [82,331])
@[go_sem]abbrev u7(v0:Int)(o0:jP)(r3:List jX)(c3:Nat):jS:=⟨(.ptr 0 0::.func (.func 331) [] [.ptr 1 0,.ptr 2 0]::qA::qA::.int .i64 v0::mm (mm (qA::qA::[]))),[.cells (jP.cells o0),.cells [.lR 3 c3],.cells [.ptr 0 0],.lR true 2 (mp jX.cells r3)],4,[]⟩
abbrev va:=Int->jP->Tk->Option TA
abbrev Cg(K:List Kt)(Z:va):Prop:=∀v0 o0 r3 c3,c3=r3.length->run (vo n) K (u7 v0 o0 r3 c3)=Z v0 o0 r3
def q8:LB (Cg n) [0,1] [.qg 0]:=mB2
def q9:Nat->va:=ui ((q8 n).1)
def X5{n:Nat}:q9 n (m+1)=(q8 n).1 (q9 n m):=rfl
@[go_sem]def Bl(m:Nat):=vi (q8 n) (q9 n) m
def vp:SX (vo n) py lm 15 pH:=mC2
def wm:=fu fun n=>(vp n).1
def Ch:∀n:Nat,tN gP 330 py lm true lm kJ lm j1 (pH (wm n)):=adx fun n=>Ei (vp n) (gd (jQ (pq (fun b a r h=>(nj n) b.1 a.1 r h)) jT) jU (p:=(kB (k7 (nE n)) (kB (k7 (X4 n)) lZ)))) func330 ntmps330 results330
@[reducible] def acG:kK TV:=nh gP f212 n (aKE (VV [(251,OO [.arg 0 [],.arg 1 [],.arg 2 [],.arg 3 [],.vA 0 0 [],.vA 4 0 [],.vA 5 0 [],.vA 5 1 [],.vA 5 2 []] kx (lX 0 (lX 1 (lX 2 (lX 3 kJ)))) kx kJ (fun(b:Tj)(a:Unit)=>(CH n) b.2.1.1 b.2.2.1.1 b.2.2.2.1.1 b.2.2.2.2.1.1 b.2.2.2.2.1.2.1 b.2.2.2.2.2.1.1 b.2.2.2.2.2.2.1 b.2.2.2.2.2.2.2.1 b.2.2.2.2.2.2.2.2.1))]) (VV [(251,OO [.arg 0 [],.arg 1 [],.arg 2 [],.arg 3 [],.vA 0 0 [],.vA 4 0 [],.vA 5 0 [],.vA 5 1 [],.vA 5 2 []] kx ul kx kJ (fun(b:Tj)(a:(Unit×Unit))=>(CI n) a.1 b.2.1.1 b.2.2.1.1 b.2.2.2.1.1 b.2.2.2.2.1.1 b.2.2.2.2.1.2.1 b.2.2.2.2.2.1.1 b.2.2.2.2.2.2.1 b.2.2.2.2.2.2.2.1 b.2.2.2.2.2.2.2.2.1))]) gP [.cell 4 37,.cell 5 3,.cell 6 28] (ty3 (kZ Syntax.kv) (lr .i64) (lr .i64))) (rk:=aEM (VV [(251,OO [.arg 0 [],.arg 1 [],.arg 2 [],.arg 3 [],.vA 0 0 [],.vA 4 0 [],.vA 5 0 [],.vA 5 1 [],.vA 5 2 []] kx (lX 0 (lX 1 (lX 2 (lX 3 kJ)))) kx kJ (fun(b:Tj)(a:Unit)=>(CH n) b.2.1.1 b.2.2.1.1 b.2.2.2.1.1 b.2.2.2.2.1.1 b.2.2.2.2.1.2.1 b.2.2.2.2.2.1.1 b.2.2.2.2.2.2.1 b.2.2.2.2.2.2.2.1 b.2.2.2.2.2.2.2.2.1))]) (VV [(251,OO [.arg 0 [],.arg 1 [],.arg 2 [],.arg 3 [],.vA 0 0 [],.vA 4 0 [],.vA 5 0 [],.vA 5 1 [],.vA 5 2 []] kx ul kx kJ (fun(b:Tj)(a:(Unit×Unit))=>(CI n) a.1 b.2.1.1 b.2.2.1.1 b.2.2.2.1.1 b.2.2.2.2.1.1 b.2.2.2.2.1.2.1 b.2.2.2.2.2.1.1 b.2.2.2.2.2.2.1 b.2.2.2.2.2.2.2.1 b.2.2.2.2.2.2.2.2.1))]) gP [.cell 4 37,.cell 5 3,.cell 6 28] (ty3 (kZ Syntax.kv) (lr .i64) (lr .i64))) (cp:=Az [(35,EK (IC n)),(252,zM (qU n))]) (wx:=l2 [35,252])
def acH:{B:(List jR)->(List Syntax)->Option TV //∀(a0:(List jR))(a1:(List Syntax)),run (acG n) [.at []] (ini [(lA jR.row).enc a0,(lA Syntax.row).enc a1] 42)=B a0 a1}:=mB2
def ai1:=fu fun n=>(acH n).1
def aon:∀(n:Nat)(a0:(List jR))(a1:(List Syntax))(r:TV),ai1 n a0 a1=some r->I5 gP 212 [(lA jR.row).enc a0,(lA Syntax.row).enc a1] (fun v=>v=(ty3 (kZ Syntax.kv) (lr .i64) (lr .i64)).enc r)
 |0,_,_,_,h=>by cases h
 |n+1,a0,a1,r,h=>by
  exact aAP (M:=acG n) (t:=(ty3 (kZ Syntax.kv) (lr .i64) (lr .i64))) (cr:=(VV [(251,OO [.arg 0 [],.arg 1 [],.arg 2 [],.arg 3 [],.vA 0 0 [],.vA 4 0 [],.vA 5 0 [],.vA 5 1 [],.vA 5 2 []] kx (lX 0 (lX 1 (lX 2 (lX 3 kJ)))) kx kJ (fun(b:Tj)(a:Unit)=>(CH n) b.2.1.1 b.2.2.1.1 b.2.2.2.1.1 b.2.2.2.2.1.1 b.2.2.2.2.1.2.1 b.2.2.2.2.2.1.1 b.2.2.2.2.2.2.1 b.2.2.2.2.2.2.2.1 b.2.2.2.2.2.2.2.2.1))])) (cp:=(VV [(251,OO [.arg 0 [],.arg 1 [],.arg 2 [],.arg 3 [],.vA 0 0 [],.vA 4 0 [],.vA 5 0 [],.vA 5 1 [],.vA 5 2 []] kx ul kx kJ (fun(b:Tj)(a:(Unit×Unit))=>(CI n) a.1 b.2.1.1 b.2.2.1.1 b.2.2.2.1.1 b.2.2.2.2.1.1 b.2.2.2.2.1.2.1 b.2.2.2.2.2.1.1 b.2.2.2.2.2.2.1 b.2.2.2.2.2.2.2.1 b.2.2.2.2.2.2.2.2.1))])) ⟨jT,jU,pd _,pI _,rK,rL,(kB (k7 (Jo n)) (kB (k7 (ace n)) lZ)),rX⟩ (Mv (abj aoW (fun _ _ _ _=>rfl) (jN) (fun b a r h=>(adO n) b.2.1.1 b.2.2.1.1 b.2.2.2.1.1 b.2.2.2.2.1.1 b.2.2.2.2.1.2.1 b.2.2.2.2.2.1.1 b.2.2.2.2.2.2.1 b.2.2.2.2.2.2.2.1 b.2.2.2.2.2.2.2.2.1 r h)) QY) (Mv (abj aoX (fun _ _ _ _=>rfl) (jN) (fun b a r h=>(adP n) a.1 b.2.1.1 b.2.2.1.1 b.2.2.2.1.1 b.2.2.2.2.1.1 b.2.2.2.2.1.2.1 b.2.2.2.2.2.1.1 b.2.2.2.2.2.2.1 b.2.2.2.2.2.2.2.1 b.2.2.2.2.2.2.2.2.1 r h)) QY) func212 rfl rfl ⟨(lA jR.row).nb 0 _,(lA Syntax.row).nb 0 _,trivial⟩ ntmps212 results212 rfl rfl (((acH n).2 a0 a1).trans h)
open Go.Proofs
@[reducible] def ayn:kK Bool:=nh gP f95 n (l1 gP [.tmp 2] mw) (cl:=l6 [(158,nq (lA kz.row) mw (ajK n)),(159,nq (lA kz.row) (Qr (lr .i64) (lr .i64)) (Ze n))])
def aer:Jx (ayn n) (lA kz.row) 15:=mB
def aes:=fu fun n=>(aer n).1
def avH:∀n:Nat,uj gP 95 (lA kz.row) mw (aes n):=ww fun n=>uU (aer n) (gd (jQ (lB (ayi n)) (jQ (lB (at4 n)) jT)) jU) func95 ntmps95 results95
@[reducible] def aaO:kK Int:=nh gP f107 n (l1 gP [.tmp 4] (lr .i64)) (cl:=l6 [(79,nP (lA kW) mo mw (oG n)),(126,nP (lA kW) mo mw (qO n)),(169,nP (kZ kH.kv) mo (Qr mo (lr .i64)) (QK n))])
def Ci:Ll (aaO n) (uL j3.kv) mo 40:=mB
def zW:=fu fun n=>(Ci n).1
def X6:∀n:Nat,uu gP 107 (uL j3.kv) mo (lr .i64) (zW n):=yu fun n=>we (Ci n) (gd (jQ (lw (pS n)) (jQ (lw (xk n)) (jQ (lw (apI n)) jT))) jU) func107 ntmps107 results107
@[go_sem]def Xn:ua:=⟨[],[],(zA::zA::zA::zT (lA jR.row)::l7 (zT (lA jR.row)::zK::zK::l7 (l7 (l7 (zA::[]))))),[],none,none⟩
@[reducible] def Zi:kK Bool:=nh gP f69 n (l1 gP [.tmp 2] mw) (cl:=l6 [(9,nP (lA jR.row) (kZ jR.kv) (Qr (lA jR.row) (lr .i64)) (aok n))]) (qj:=oz [([0,1,0,1,1],Xn)])
@[go_sem]abbrev Xo(v0 v1:List jR)(v2 v3:Int):jS:=⟨(qA::qA::qA::.kF false 4 (mp jR.cells v0)::mm (.kF false 4 (mp jR.cells v1)::.int .i64 v2::.int .i64 v3::mm (mm (mm (qA::[]))))),[],0,[]⟩
abbrev Xp:=(List jR)->(List jR)->Int->Int->Option Bool
abbrev amq(K:List Kt)(Z:Xp):Prop:=∀v0 v1 v2 v3,run (Zi n) K (Xo v0 v1 v2 v3)=Z v0 v1 v2 v3
def K1:LB (amq n) [0,1,0,1,1] [.qg 0,.cut [1,1,1],.at [1,1,1]]:=mB
def K2:Nat->Xp:=ui ((K1 n).1)
def aBh{n:Nat}:K2 n (m+1)=(K1 n).1 (K2 n m):=rfl
@[go_sem]def agl(m:Nat):=vi (K1 n) (K2 n) m
def Zj:Jx (Zi n) (lA jR.row) 24:=mB
def afM:=fu fun n=>(Zj n).1
def amr:∀n:Nat,uj gP 69 (lA jR.row) mw (afM n):=ww fun n=>uU (Zj n) (gd (jQ (lw (arC n)) jT) jU) func69 ntmps69 results69
@[go_sem]abbrev zX(F:Syntax->(List jR)->Bool->kj->Option (T9×TE))(b:T9)(a:(Syntax×Unit)):=F a.1 b.1.1 b.1.2.1 b.2.1
@[go_sem]def Oc(F:Syntax->(List jR)->Bool->kj->Option (T9×TE)):=GR [.arg 0 [],.vA 0 1 []] j4 (lX 0 (lW (kZ Syntax.kv) kJ)) j4 (lW (lA Syntax.row) (lW mw kJ)) (zX F)
@[reducible] def Od:kK (T9×TE):=nh gP f188 n (w9 gP [.tmp 4,.tmp 5] [] [0,1] 2 j4 (lW (lA Syntax.row) (lW mw kJ))) (cd:=Bp [(232,pR (nP (lA jR.row) (kZ Syntax.kv) (Qr (lA Syntax.row) (lr .i64)) (ai0 n)))]) (uz:=l2 []) (uC:=l2 [])
@[go_sem]def aet:anm (Od n) [0,1] [0,1,1,1]:=⟨jN,jN⟩
def Oe:SX (Od n) (lX 0 (lW (kZ Syntax.kv) kJ)) j4 38 zX:=mC
def R3:=fu fun n=>(Oe n).1
def acI:∀n:Nat,zt gP 188 (lX 0 (lW (kZ Syntax.kv) kJ)) j4 j4 (lW (lA Syntax.row) (lW mw kJ)) (zX (R3 n)):=VX fun n=>GC (Oe n) (gd jT (lC (qk (aom n)) jU)) func188 ntmps188 results188
@[go_sem]abbrev zY(F:jP->Option T14)(b:T6)(a:Unit):=F b.1.1
@[go_sem]def Of(F:jP->Option T14):=xu true [.arg 0 []] jO (lX 0 kJ) jO (lW (lA jX.row) kJ) jO j1 (zY F)
@[reducible] def aeu:kK T14:=nh gP f325 n (qL gP [.tmp 2] [] [0] 1 jO (lW (lA jX.row) kJ)) (cl:=l6 [(153,Ah [0] (uf (Ax jP.kv) sM) (XA 0 (asT mo IJ)) (uf (Ax jP.kv) sM) (VQ mw F8) (fun(b:Te) a=>(nM n) b.1 a.1))]) (cut:=as5 [] [([1,1,1],2,0,2,true)]) (rk:=qM [] [0] 1 jO j1) (cp:=Az [(151,pE (qm n)),(330,vn (wm n))]) (wx:=l2 [151,330])
def Og:SX (aeu n) (lX 0 kJ) jO 19 zY:=mC2
def R4:=fu fun n=>(Og n).1
def acJ:∀n:Nat,tN gP 325 (lX 0 kJ) jO true jO (lW (lA jX.row) kJ) jO j1 (zY (R4 n)):=adx fun n=>Ei (Og n) (gdM (jQ (pq (fun b a r h=>(nj n) b.1 a.1 r h)) jT) jU (p:=(kB (k7 (pP n)) (kB (k7 (Ch n)) lZ)))) func325 ntmps325 results325
open Go.Proofs
@[go_sem]abbrev mr(F:Syntax->(List jR)->Bool->kj->Option (T9×Unit))(b:T9)(a:(Syntax×Unit)):=F a.1 b.1.1 b.1.2.1 b.2.1
@[go_sem]def oa(F:Syntax->(List jR)->Bool->kj->Option (T9×Unit)):=GR [.arg 0 [],.vA 0 1 []] j4 (lX 0 (lW (kZ Syntax.kv) kJ)) j4 kJ (mr F)
@[go_sem]def nk:=(lX 0 (lW mo (alB 71 (vlP 0 vlN) (lW (kZ Syntax.kv) (lW mo kJ)))))
@[go_sem]abbrev k5(F:kj->Syntax->kj->(List jR)->Bool->kj->Option (T9×Unit))(b:T9)(a:(kj×(Unit×(Syntax×(kj×Unit))))):=F a.1 a.2.2.1 a.2.2.2.1 b.1.1 b.1.2.1 b.2.1
@[go_sem]def oh(F:kj->Syntax->kj->(List jR)->Bool->kj->Option (T9×Unit)):=GR [.arg 0 [],.vA 0 1 []] j4 nk j4 kJ (k5 F)
@[go_sem]def oN:=(lX 0 (lW mo (alB 134 (vlP 0 vlN) (lW (kZ Syntax.kv) (lW mo kJ)))))
@[go_sem]def sS(F:kj->Syntax->kj->(List jR)->Bool->kj->Option (T9×Unit)):=GR [.arg 0 [],.vA 0 1 []] j4 oN j4 kJ (k5 F)
@[go_sem]def n5:=(lX 0 (lW mo (alB 233 (vlP 0 vlN) (lW (kZ Syntax.kv) (lW mo kJ)))))
@[go_sem]def wo(F:kj->Syntax->kj->(List jR)->Bool->kj->Option (T9×Unit)):=GR [.arg 0 [],.vA 0 1 []] j4 n5 j4 kJ (k5 F)
structure k6 where
 qE:Syntax->(List jR)->Bool->kj->Option (T9×Unit)
 li:kj->Syntax->kj->(List jR)->Bool->kj->Option (T9×Unit)
 rD:Syntax->(List jR)->Bool->kj->Option (T9×Unit)
 l3:kj->Syntax->kj->(List jR)->Bool->kj->Option (T9×Unit)
 rV:Syntax->(List jR)->Bool->kj->Option (T9×Unit)
 sH:Syntax->(List jR)->Bool->kj->Option (T9×Unit)
 rH:Syntax->(List jR)->Bool->kj->Option (T9×Unit)
 mj:kj->Syntax->kj->(List jR)->Bool->kj->Option (T9×Unit)
open Go.Proofs
@[reducible] def Bj(X:k6)(n:Nat):kK (T9×Unit):=nh gP f71 n (w9 gP [] [] [0,1] 2 j4 kJ) (cl:=l6 [(71,oa X.qE),(131,sr (tV n)),(132,oh X.li),(133,oa X.rD),(134,oa X.rV)]) (co:=aQQ [(132,IK [.arg 0 [],.vA 0 1 []] j4 nk j4 kJ j4 kJ (fun(b:T9)(a:(kj×(Unit×(Syntax×(kj×Unit)))))=>(X.li a.1 a.2.2.1 a.2.2.2.1 b.1.1 b.1.2.1 b.2.1).map fun r=>(PR.ok r:PR (T9×Unit) (T9×Unit))))]) (uz:=l2 [132]) (uC:=l2 [])
@[go_sem]def agm(X:k6)(n:Nat):anm (Bj X n) [0,0,1,1,1,1,1,0,1,1,1,1] [1,1,0,0,1,0,1,1,1,1]:=⟨jN,jN⟩
@[go_sem]def agn(X:k6)(n:Nat):xR (Bj X n) [0,0,1,1,1,1,1,0,1,1,1,1] 2 11 8 11 9 11 10 11/\xR (Bj X n) [1,1,0,0,1,0,1,1,1,1] 2 11 8 11 9 11 10 11:=⟨⟨jN,jN,jN,jN⟩,jN,jN,jN,jN⟩
def FY(X:k6)(n:Nat):SX (Bj X n) (lX 0 (lW (kZ Syntax.kv) kJ)) j4 120 mr:=mC2
open Go.Proofs
@[reducible] def D0(X:k6)(n:Nat):kK (T9×Unit):=nh gP f132 n (w9 gP [] [] [0,1] 2 j4 kJ) (cl:=l6 [(71,oa X.qE),(131,sr (tV n))])
def si(X:k6)(n:Nat):SX (D0 X n) nk j4 21 k5:=mC
open Go.Proofs
@[reducible] def acK(X:k6)(n:Nat):kK (T9×Unit):=nh gP f133 n (w9 gP [] [] [0,1] 2 j4 kJ) (cl:=l6 [(132,VR (oh X.li) (sS X.l3)),(134,oa X.rV)])
def DL(X:k6)(n:Nat):SX (acK X n) (lX 0 (lW (kZ Syntax.kv) kJ)) j4 51 mr:=mC
open Go.Proofs
@[reducible] def Fi(X:k6)(n:Nat):kK (T9×Unit):=nh gP f132 n (w9 gP [] [] [0,1] 2 j4 kJ) (cl:=l6 [(131,sr (tV n)),(134,oa X.rV)])
def sU(X:k6)(n:Nat):SX (Fi X n) oN j4 21 k5:=mC
open Go.Proofs
@[go_sem]def R5:ua:=⟨[],[],(zK::lH (lH (zT (lA Syntax.row)::zK::zK::lH (lH (l7 (zA::[])))))),[oC [zK,zK,zT (lA jR.row),zK],oY],none,none⟩
@[reducible] def US(X:k6)(n:Nat):kK (T9×Unit):=nh gP f134 n (w9 gP [] [] [0,1] 2 j4 kJ) (cl:=l6 [(127,nq (lr .i64) mw (Qx n)),(131,sr (tV n)),(132,VR (oh X.li) (sS X.l3)),(188,Oc (R3 n)),(189,oa X.sH)]) (qj:=oz [([0,1,1,1,1,1,1],R5)])
@[go_sem]abbrev R6(v0:List Syntax)(v1 v2:Int)(v3:List jR)(v4:Bool)(r1:kj)(c1:Nat):jS:=⟨(.ptr 0 0::lK (lK (.kF false 8 (mp Syntax.cells v0)::.int .i64 v1::.int .i64 v2::lK (lK (mm (qA::[])))))),[.cells [.sn 141 0,.lR 1 c1,.kF false 4 (mp jR.cells v3),.bool v4],.Jw (sb r1)],2,[]⟩
abbrev R7:=(List Syntax)->Int->Int->(List jR)->Bool->kj->Option (T9×Unit)
abbrev ai2(X:k6)(n:Nat)(K:List Kt)(Z:R7):Prop:=∀v0 v1 v2 v3 v4 r1 c1,c1=r1.length->run (US X n) K (R6 v0 v1 v2 v3 v4 r1 c1)=Z v0 v1 v2 v3 v4 r1
def HV(X:k6)(n:Nat):LB (ai2 X n) [0,1,1,1,1,1,1] [.qg 0]:=mB
def HW(X:k6)(n:Nat):Nat->R7:=ui ((HV X n).1)
def ayo(X:k6){n:Nat}:HW X n (m+1)=(HV X n).1 (HW X n m):=rfl
@[go_sem]def acL(X:k6)(n:Nat)(m:Nat):=vi (HV X n) (HW X n) m
def Jp(X:k6)(n:Nat):SX (US X n) (lX 0 (lW (kZ Syntax.kv) kJ)) j4 73 mr:=mC
open Go.Proofs
@[reducible] def ai3(X:k6)(n:Nat):kK (T9×Unit):=nh gP f189 n (w9 gP [] [] [0,1] 2 j4 kJ) (cl:=l6 [(131,sr (tV n)),(189,oa X.sH),(233,oa X.rH),(234,nq (kZ jX.kv) mo (ZV n)),(235,nP mo mo mw (strings_ContainsAny n))])
def HX(X:k6)(n:Nat):SX (ai3 X n) (lX 0 (lW (kZ Syntax.kv) kJ)) j4 62 mr:=mC
open Go.Proofs
@[go_sem]def Oh:ua:=⟨[(4,1,true)],[],(zK::zA::zA::zA::zK::lH (l7 (l7 (zA::zA::zA::zT (lA jX.row)::zK::zK::wv (lH (lH (l7 (l7 (zA::[]))))))))),[oC [zK,zK,zT (lA jR.row),zK],oY,oD,oA kW],none,none⟩
@[reducible] def Pv(X:k6)(n:Nat):kK (T9×Unit):=nh gP f233 n (w9 gP [] [] [0,1] 2 j4 kJ) (cl:=l6 [(131,sr (tV n)),(132,VR (wo X.mj) (oh X.li)),(170,nq (lr .i64) mo (strconv_Itoa n)),(234,nq (kZ jX.kv) mo (ZV n)),(260,nP (lA kW) mo mo (strings_Join n))]) (qj:=oz [([0,1,0,1,1,1,0,1,0,1,1,1],Oh)])
@[go_sem]abbrev Oi(v0:List jX)(v1 v2:Int)(v3:List jR)(v4:Bool)(r1:kj)(r3:List kj)(c1:Nat)(c3:Nat):jS:=⟨(.ptr 0 0::qA::qA::qA::.lR 3 c3::lK (mm (mm (qA::qA::qA::.kF false 2 (mp jX.cells v0)::.int .i64 v1::.int .i64 v2::wu (lK (lK (mm (mm (qA::[]))))))))),[.cells [.sn 141 0,.lR 1 c1,.kF false 4 (mp jR.cells v3),.bool v4],.Jw (sb r1),.vZ,.lR true 1 (mp kX r3)],2,[]⟩
@[go_sem]abbrev Oj:List Kt:=[.qg 1,.cut [1,1,1,1,0,1,0,1,1,1],.at [1,1,1,1,0,1,0,1,1,1],.qg 0]
abbrev Ok:=Tk->Int->Int->(List jR)->Bool->kj->(List kj)->Option (T9×Unit)
abbrev aev(X:k6)(n:Nat)(K:List Kt)(Z:Ok):Prop:=∀v0 v1 v2 v3 v4 r1 r3 c1 c3,c1=r1.length->c3=r3.length->run (Pv X n) K (Oi v0 v1 v2 v3 v4 r1 r3 c1 c3)=Z v0 v1 v2 v3 v4 r1 r3
def EM(X:k6)(n:Nat):LB (aev X n) [0,1,0,1,1,1,0,1,0,1,1,1] Oj:=mB
def EN(X:k6)(n:Nat):Nat->Ok:=ui ((EM X n).1)
def avI(X:k6){n:Nat}:EN X n (m+1)=(EM X n).1 (EN X n m):=rfl
@[go_sem]def X7(X:k6)(n:Nat)(m:Nat):=vi (EM X n) (EN X n) m
def FZ(X:k6)(n:Nat):SX (Pv X n) (lX 0 (lW (kZ Syntax.kv) kJ)) j4 140 mr:=mC
open Go.Proofs
@[reducible] def D1(X:k6)(n:Nat):kK (T9×Unit):=nh gP f132 n (w9 gP [] [] [0,1] 2 j4 kJ) (cl:=l6 [(131,sr (tV n)),(233,oa X.rH)])
def sj(X:k6)(n:Nat):SX (D1 X n) n5 j4 21 k5:=mC
open Go.Proofs
def ku:Nat->k6
 |0=>⟨Fu.z,Fu.z,Fu.z,Fu.z,Fu.z,Fu.z,Fu.z,Fu.z⟩
 |n+1=>⟨(FY (ku n) n).1,(si (ku n) n).1,(DL (ku n) n).1,(sU (ku n) n).1,(Jp (ku n) n).1,(HX (ku n) n).1,(FZ (ku n) n).1,(sj (ku n) n).1⟩
def qE:Syntax->(List jR)->Bool->kj->Option (T9×Unit):=(ku n).qE
def ayU{n:Nat}:qE (n+1)=(FY (ku n) n).1:=rfl
def li:kj->Syntax->kj->(List jR)->Bool->kj->Option (T9×Unit):=(ku n).li
def ac4{n:Nat}:li (n+1)=(si (ku n) n).1:=rfl
def rD:Syntax->(List jR)->Bool->kj->Option (T9×Unit):=(ku n).rD
def awJ{n:Nat}:rD (n+1)=(DL (ku n) n).1:=rfl
def l3:kj->Syntax->kj->(List jR)->Bool->kj->Option (T9×Unit):=(ku n).l3
def afN{n:Nat}:l3 (n+1)=(sU (ku n) n).1:=rfl
def rV:Syntax->(List jR)->Bool->kj->Option (T9×Unit):=(ku n).rV
def aBT{n:Nat}:rV (n+1)=(Jp (ku n) n).1:=rfl
def sH:Syntax->(List jR)->Bool->kj->Option (T9×Unit):=(ku n).sH
def aBi{n:Nat}:sH (n+1)=(HX (ku n) n).1:=rfl
def rH:Syntax->(List jR)->Bool->kj->Option (T9×Unit):=(ku n).rH
def ayV{n:Nat}:rH (n+1)=(FZ (ku n) n).1:=rfl
def mj:kj->Syntax->kj->(List jR)->Bool->kj->Option (T9×Unit):=(ku n).mj
def ac5{n:Nat}:mj (n+1)=(sj (ku n) n).1:=rfl
def ayp{n:Nat}:(ku n).qE=qE n/\(ku n).li=li n/\(ku n).rD=rD n/\(ku n).l3=l3 n/\(ku n).rV=rV n/\(ku n).sH=sH n/\(ku n).rH=rH n/\(ku n).mj=mj n:=⟨rfl,rfl,rfl,rfl,rfl,rfl,rfl,rfl⟩
def pO:∀n:Nat,zt gP 71 (lX 0 (lW (kZ Syntax.kv) kJ)) j4 j4 kJ (mr (ku n).qE)/\zt gP 132 nk j4 j4 kJ (k5 (ku n).li)/\zt gP 133 (lX 0 (lW (kZ Syntax.kv) kJ)) j4 j4 kJ (mr (ku n).rD)/\zt gP 132 oN j4 j4 kJ (k5 (ku n).l3)/\zt gP 134 (lX 0 (lW (kZ Syntax.kv) kJ)) j4 j4 kJ (mr (ku n).rV)/\zt gP 189 (lX 0 (lW (kZ Syntax.kv) kJ)) j4 j4 kJ (mr (ku n).sH)/\zt gP 233 (lX 0 (lW (kZ Syntax.kv) kJ)) j4 j4 kJ (mr (ku n).rH)/\zt gP 132 n5 j4 j4 kJ (k5 (ku n).mj)
 |0=>⟨fun _ _ _ h=>(by cases h),fun _ _ _ h=>(by cases h),fun _ _ _ h=>(by cases h),fun _ _ _ h=>(by cases h),fun _ _ _ h=>(by cases h),fun _ _ _ h=>(by cases h),fun _ _ _ h=>(by cases h),fun _ _ _ h=>(by cases h)⟩
 |n+1=>by
  obtain⟨Ol,n6,aaP,wV,HY,Pw,Om,DM⟩:=pO n
  exact⟨GC (FY (ku n) n) (gd (jQ (mV (Ol)) (jQ (mV (td n)) (jQ (mV (n6)) (jQ (mV (aaP)) (jQ (mV (HY)) jT))))) jU (c:=(nQ (as1 (n6)) tP))) func71 ntmps71 results71,
   GC (si (ku n) n) (gd (jQ (mV (Ol)) (jQ (mV (td n)) jT)) jU) func132 ntmps132 results132,
   GC (DL (ku n) n) (gd (jQ (abh (mV (n6)) (mV (wV))) (jQ (mV (HY)) jT)) jU) func133 ntmps133 results133,
   GC (sU (ku n) n) (gd (jQ (mV (td n)) (jQ (mV (HY)) jT)) jU) func132 ntmps132 results132,
   GC (Jp (ku n) n) (gd (jQ (lB (P2 n)) (jQ (mV (td n)) (jQ (abh (mV (n6)) (mV (wV))) (jQ (mV (acI n)) (jQ (mV (Pw)) jT))))) jU) func134 ntmps134 results134,
   GC (HX (ku n) n) (gd (jQ (mV (td n)) (jQ (mV (Pw)) (jQ (mV (Om)) (jQ (lB (abE n)) (jQ (lw (aeb n)) jT))))) jU) func189 ntmps189 results189,
   GC (FZ (ku n) n) (gd (jQ (mV (td n)) (jQ (abh (mV (DM)) (mV (n6))) (jQ (lB (Kx n)) (jQ (lB (abE n)) (jQ (lw (St n)) jT))))) jU) func233 ntmps233 results233,
   GC (sj (ku n) n) (gd (jQ (mV (td n)) (jQ (mV (Om)) jT)) jU) func132 ntmps132 results132⟩
def aew:zt gP 71 (lX 0 (lW (kZ Syntax.kv) kJ)) j4 j4 kJ (mr (qE n)):=(pO n).1
def acM:zt gP 132 nk j4 j4 kJ (k5 (li n)):=(pO n).2.1
def avJ:zt gP 133 (lX 0 (lW (kZ Syntax.kv) kJ)) j4 j4 kJ (mr (rD n)):=(pO n).2.2.1
def aex:zt gP 132 oN j4 j4 kJ (k5 (l3 n)):=(pO n).2.2.2.1
def aBj:zt gP 134 (lX 0 (lW (kZ Syntax.kv) kJ)) j4 j4 kJ (mr (rV n)):=(pO n).2.2.2.2.1
def ayW:zt gP 189 (lX 0 (lW (kZ Syntax.kv) kJ)) j4 j4 kJ (mr (sH n)):=(pO n).2.2.2.2.2.1
def ayq:zt gP 233 (lX 0 (lW (kZ Syntax.kv) kJ)) j4 j4 kJ (mr (rH n)):=(pO n).2.2.2.2.2.2.1
def acN:zt gP 132 n5 j4 j4 kJ (k5 (mj n)):=(pO n).2.2.2.2.2.2.2
open Go.Proofs
@[go_sem]abbrev k9(F:jP->Option Td)(b:T6)(a:Unit):=F b.1.1
@[go_sem]def nA(F:jP->Option Td):=xu true [.arg 0 []] jO (lX 0 kJ) jO (lW (kZ Syntax.kv) kJ) jO j1 (k9 F)
@[go_sem]abbrev pY(F:Int->jP->Option Td)(b:T6)(a:(Int×Unit)):=F a.1 b.1.1
@[go_sem]def CQ(F:Int->jP->Option Td):=xu true [.arg 0 []] jO (lX 0 (lW (lr .i64) kJ)) jO (lW (kZ Syntax.kv) kJ) jO j1 (pY F)
@[go_sem]abbrev ur(F:kj->kj->jP->Option Tx)(b:T6)(a:(kj×(kj×Unit))):=F a.1 a.2.1 b.1.1
@[go_sem]def On(F:kj->kj->jP->Option Tx):=xu true [.arg 0 []] jO (lX 0 (lW mo (lW mo kJ))) jO (lW (lA j8.row) kJ) jO j1 (ur F)
@[go_sem]abbrev wW(F:Syntax->jP->Option Td)(b:T6)(a:(Syntax×Unit)):=F a.1 b.1.1
@[go_sem]def Oo(F:Syntax->jP->Option Td):=xu true [.arg 0 []] jO (lX 0 (lW (kZ Syntax.kv) kJ)) jO (lW (kZ Syntax.kv) kJ) jO j1 (wW F)
@[go_sem]def kS:=(tz (Bq (aQO jP.kv 6 kJ)) (tz (Bq (aQO Syntax.kv 8 kJ)) Bn))
@[go_sem]abbrev pF(F:jP->Syntax->Option Th)(b:(Te×((Syntax×Unit)×Unit)))(a:Unit):=F b.1.1 b.2.1.1
@[go_sem]def yp(F:jP->Syntax->Option Th):=xu true [.arg 0 [],.arg 1 []] kS (lX 0 (lX 1 kJ)) kS kJ kS j1 (pF F)
@[go_sem]abbrev vR(F:jP->Option TP)(b:T6)(a:Unit):=F b.1.1
@[go_sem]def DN(F:jP->Option TP):=xu true [.arg 0 []] jO (lX 0 kJ) jO (lW (lA Syntax.row) kJ) jO j1 (vR F)
@[go_sem]def sY:=(lX 0 (lW (kZ Syntax.kv) (lW (lA j8.row) (lW mo kJ))))
@[go_sem]abbrev tL(F:Syntax->TF->kj->jP->Option Td)(b:T6)(a:(Syntax×(TF×(kj×Unit)))):=F a.1 a.2.1 a.2.2.1 b.1.1
@[go_sem]def acO(F:Syntax->TF->kj->jP->Option Td):=xu true [.arg 0 []] jO sY jO (lW (kZ Syntax.kv) kJ) jO j1 (tL F)
structure jZ where
 nL:jP->Option Td
 uI:Int->jP->Option Td
 qY:kj->kj->jP->Option Tx
 uJ:Int->jP->Option Td
 s3:Int->jP->Option Td
 vS:jP->Option Td
 tX:jP->Option Td
 uK:jP->Option Td
 tY:jP->Option Td
 s4:jP->Option Td
 su:Syntax->jP->Option Td
 tZ:jP->Syntax->Option Th
 qu:jP->Option TP
 pG:jP->Option Td
 qZ:jP->Option Td
 rI:jP->Syntax->Option Th
 s5:jP->Syntax->Option Th
 rE:Syntax->TF->kj->jP->Option Td
open Go.Proofs
@[reducible] def lN(X:jZ)(n:Nat):kK Td:=nh gP f44 n (as2 (VV [(83,OO [.arg 0 [],.vA 0 0 []] lF (lX 0 kJ) lF kJ (fun(b:(Unit×T6))(a:Unit)=>(Dc n) b.2.1.1))]) (qL gP [.cell 2 37] [] [0] 1 jO (lW (kZ Syntax.kv) kJ)) (qM [] [0] 1 jO j1)) (cl:=l6 [(84,DX (pR (nq (uL jP.kv) (lr .i64) (vD n)))),(85,DX (pR (Zv (uL jP.kv) (lr .i64) mo mw (Al n)))),(88,Ah [0] (uf (Ax jP.kv) sM) (XA 0 IJ) (uf (Ax jP.kv) sM) (VQ mo F8) (fun(b:Te) a=>(mZ n) b.1)),(91,DX (pR (nP (uL jP.kv) mo mw (qc n))))]) (rk:=as3 (VV [(83,OO [.arg 0 [],.vA 0 0 []] lF (lX 0 kJ) lF kJ (fun(b:(Unit×T6))(a:Unit)=>(Dc n) b.2.1.1))]) (qL gP [.cell 2 37] [] [0] 1 jO (lW (kZ Syntax.kv) kJ)) (qM [] [0] 1 jO j1)) (co:=aQQ [(82,IK [.arg 0 []] jO (lX 0 (lW (lr .i64) kJ)) jO kJ jO j1 (p5 (nW n))),(89,IK [.arg 0 []] jO sY jO (lW (kZ Syntax.kv) kJ) jO j1 (tL X.rE)),(90,IK [.arg 0 []] jO (lX 0 (lW mo (lW mo kJ))) jO (lW (lA j8.row) kJ) jO j1 (ur X.qY))]) (cp:=Az [(86,CQ X.uI),(87,CQ X.uJ),(92,CQ X.s3)]) (wx:=l2 [86,87,92]) (uz:=l2 [82,89,90]) (uC:=l2 [])
def ai4(X:jZ)(n:Nat):aF9 (lN X n) [0,0,1,1,1,1,1,1,1,0,0,1,1,1,1,1] [0,0,1,1,1,1,1,1,1,1,1,0,0,1,1,1,1,1] [0,1] [0,1,0,1,1,1,1,1,0,0,1,1,1,1,1]:=⟨jN,jN,jN,jN⟩
def ai5(X:jZ)(n:Nat):xR (lN X n) [0,0,1,1,1,1,1,1,1,0,0,1,1,1,1,1] 3 4 0 5 3 5 4 5/\xR (lN X n) [0,0,1,1,1,1,1,1,1,0,0,1,1,1,1,1] 0 6 3 6 4 6 5 6/\xR (lN X n) [0,0,1,1,1,1,1,1,1,1,1,0,0,1,1,1,1,1] 3 4 0 5 3 5 4 5/\xR (lN X n) [0,0,1,1,1,1,1,1,1,1,1,0,0,1,1,1,1,1] 0 6 3 6 4 6 5 6/\aDH (lN X n) [0,1] 0 7 3 7 6 7/\xR (lN X n) [0,1,0,1,1,1,1,1,0,0,1,1,1,1,1] 3 4 0 5 3 5 4 5/\xR (lN X n) [0,1,0,1,1,1,1,1,0,0,1,1,1,1,1] 0 6 3 6 4 6 5 6:=⟨⟨jN,jN,jN,jN⟩,⟨jN,jN,jN,jN⟩,⟨jN,jN,jN,jN⟩,⟨jN,jN,jN,jN⟩,⟨jN,jN,jN⟩,⟨jN,jN,jN,jN⟩,jN,jN,jN,jN⟩
def ai6(X:jZ)(n:Nat):OD (lN X n) [0,0,1,1,1,1,1,1,1,0,0,1,1,1,1,1] 4 5=true/\OD (lN X n) [0,0,1,1,1,1,1,1,1,0,0,1,1,1,1,1] 4 6=true/\OD (lN X n) [0,0,1,1,1,1,1,1,1,1,1,0,0,1,1,1,1,1] 4 5=true/\OD (lN X n) [0,0,1,1,1,1,1,1,1,1,1,0,0,1,1,1,1,1] 4 6=true/\OD (lN X n) [0,1,0,1,1,1,1,1,0,0,1,1,1,1,1] 4 5=true/\OD (lN X n) [0,1,0,1,1,1,1,1,0,0,1,1,1,1,1] 4 6=true/\Zt (lN X n) [0,0,1,1,1,1,1,1,1,0,0,1,1,1,1,1] 4=false/\Zt (lN X n) [0,0,1,1,1,1,1,1,1,0,0,1,1,1,1,1] 5=true/\Zt (lN X n) [0,0,1,1,1,1,1,1,1,1,1,0,0,1,1,1,1,1] 4=false/\Zt (lN X n) [0,0,1,1,1,1,1,1,1,1,1,0,0,1,1,1,1,1] 5=true/\Zt (lN X n) [0,1] 7=true/\Zt (lN X n) [0,1,0,1,1,1,1,1,0,0,1,1,1,1,1] 4=false/\Zt (lN X n) [0,1,0,1,1,1,1,1,0,0,1,1,1,1,1] 5=true:=⟨jN,jN,jN,jN,jN,jN,jN,jN,jN,jN,jN,jN,jN⟩
attribute [go_sem] ai4 ai5 ai6
def HZ(X:jZ)(n:Nat):SX (lN X n) (lX 0 kJ) jO 80 k9:=mC2
open Go.Proofs
@[go_sem]def R8:ua:=⟨[(5,9,true)],[],(zK::zK::zA::zA::zK::zK::zK::lH (lH (lH (zA::zA::[])))),[oT jP.kv,oK,oA j8.row],none,none⟩
@[reducible] def UT(X:jZ)(n:Nat):kK Td:=nh gP f86 n (qL gP [.cell 4 37] [] [0] 1 jO (lW (kZ Syntax.kv) kJ)) (cl:=l6 [(88,Ah [0] (uf (Ax jP.kv) sM) (XA 0 IJ) (uf (Ax jP.kv) sM) (VQ mo F8) (fun(b:Te) a=>(mZ n) b.1)),(91,DX (pR (nP (uL jP.kv) mo mw (qc n)))),(150,Ah [0] (uf (Ax jP.kv) sM) (XA 0 IJ) (uf (Ax jP.kv) sM) (VQ (kZ Syntax.kv) F8) (fun(b:Te) a=>(KU n) b.1)),(152,Zv (kZ Syntax.kv) (lA j8.row) (kZ Syntax.kv) (kZ Syntax.kv) (YV n))]) (qj:=oz [([0,1,0,1,1,1],R8)]) (rk:=qM [] [0] 1 jO j1) (cp:=Az [(44,nA X.nL),(82,mb (nW n)),(90,On X.qY),(149,ou (uq n)),(151,pE (qm n))]) (wx:=l2 [44,82,90,149,151])
@[go_sem]abbrev R9(v0 v1:Int)(o0:jP)(r2:List j8)(c2:Nat):jS:=⟨(.ptr 0 0::.int .i64 v0::qA::qA::.ptr 1 0::.lR 2 c2::.int .i64 v1::lK (lK (lK (qA::qA::[])))),[.cells (jP.cells o0),.cells [.int .i64 0,.str (sb []),.int .i64 0,.kF true 0 [],.kF true 0 [],.kF true 0 [],.int .i64 0,.int .i64 0],.lR true 9 (mp j8.cells r2)],1,[]⟩
abbrev Sa:=Int->Int->jP->TF->Option Td
abbrev ai7(X:jZ)(n:Nat)(K:List Kt)(Z:Sa):Prop:=∀v0 v1 o0 r2 c2,c2=r2.length->run (UT X n) K (R9 v0 v1 o0 r2 c2)=Z v0 v1 o0 r2
def H6(X:jZ)(n:Nat):LB (ai7 X n) [0,1,0,1,1,1] [.qg 0,.cut [1,1,1,1],.at [1,1,1,1]]:=mB2
def H7(X:jZ)(n:Nat):Nat->Sa:=ui ((H6 X n).1)
def ayr(X:jZ){n:Nat}:H7 X n (m+1)=(H6 X n).1 (H7 X n m):=rfl
@[go_sem]def acP(X:jZ)(n:Nat)(m:Nat):=vi (H6 X n) (H7 X n) m
def Jq(X:jZ)(n:Nat):SX (UT X n) (lX 0 (lW (lr .i64) kJ)) jO 57 pY:=mC2
open Go.Proofs
@[go_sem]def L2:ua:=⟨[],[],(zK::zK::zK::l7 (zK::lH (lH (l7 (l7 (l7 (zA::zA::[]))))))),[oT jP.kv,oA kW],none,none⟩
@[go_sem]def Kl:ua:=⟨[],[],(zK::zK::zK::l7 (zL kW::lH (lH (l7 (l7 (l7 (zA::zA::[]))))))),[oT jP.kv],(some 7),none⟩
@[reducible] def zZ(X:jZ)(n:Nat):kK Tx:=nh gP f90 n (qL gP [.tmp 6] [] [0] 1 jO (lW (lA j8.row) kJ)) (cl:=l6 [(88,Ah [0] (uf (Ax jP.kv) sM) (XA 0 IJ) (uf (Ax jP.kv) sM) (VQ mo F8) (fun(b:Te) a=>(mZ n) b.1)),(154,DX (pR (nq (uL jP.kv) mw (ya n)))),(155,nP (lA kW) (kZ Syntax.kv) (lA j8.row) (ad9 n))]) (qj:=oz [([0,0,1,1,1],Kl),([0,0,1,1,1],L2)]) (rk:=qM [] [0] 1 jO j1) (cp:=Az [(44,nA X.nL),(82,mb (nW n)),(149,ou (uq n)),(151,pE (qm n))]) (wx:=l2 [44,82,149,151])
@[go_sem]abbrev L3(v0 v1:kj)(o0:jP)(r1:List kj)(c1:Nat):jS:=⟨(.ptr 0 0::.str (sb v0)::.str (sb v1)::mm (.lR 1 c1::lK (lK (mm (mm (mm (qA::qA::[]))))))),[.cells (jP.cells o0),.lR true 1 (mp kX r1)],1,[]⟩
abbrev L4:=kj->kj->jP->(List kj)->Option Tx
abbrev acQ(X:jZ)(n:Nat)(K:List Kt)(Z:L4):Prop:=∀v0 v1 o0 r1 c1,c1=r1.length->run (zZ X n) K (L3 v0 v1 o0 r1 c1)=Z v0 v1 o0 r1
def DO(X:jZ)(n:Nat):LB (acQ X n) [0,0,1,1,1] [.qg 0,.cut [1,1,1,1],.at [1,1,1,1]]:=by
 apply Subtype.mk;intro m X0 ih v0 v1 o0 r1 c1 ec1;subst ec1;simp (config:={maxSteps:=100000000}) only[go_sem,Nat.reduceAdd,Nat.reduceSub,Nat.reduceLeDiff,Nat.reduceEqDiff,Nat.reduceBEq,Nat.reduceMul,Nat.reduceLT,Int.reduceLE,Int.reduceLT,Int.reduceToNat,Int.reduceBEq,Int.reduceEq,f90,Option.getD_some,mixed,ih];exact rfl
def DP(X:jZ)(n:Nat):Nat->L4:=ui ((DO X n).1)
def auz(X:jZ){n:Nat}:DP X n (m+1)=(DO X n).1 (DP X n m):=rfl
def H8(X:jZ)(n:Nat)(m:Nat):=vi (DO X n) (DP X n) m
def Km(X:jZ)(n:Nat):{B:Nat->kj->kj->(List kj)->jP->Option Tx //∀(m:Nat)(v0 v1:kj)(v2:List kj)(o0:jP),run (zZ X n) [.at [0,0,0,1,1,1],.lp m [0,0,1,1,1],.qg 0,.cut [1,1,1,1],.at [1,1,1,1]] ⟨[.ptr 0 0,.str (sb v0),.str (sb v1),qA,qA,qA,qA,.kF true 1 (mp kX v2),qA,qA,qA,qA,qA,qA,qA,qA,qA,qA,qA,qA,qA,qA,qA,qA,qA,qA,qA,qA,qA,qA,qA,qA,qA,qA,qA,qA,qA,qA,qA,qA,qA,qA,qA,qA,qA,qA,qA,qA,qA,qA,qA,qA,qA,qA],[.cells (jP.cells o0)],1,[]⟩=B m v0 v1 v2 o0}:=by
 apply Subtype.mk;intro m v0 v1 v2 o0;simp (config:={maxSteps:=100000000}) only[go_sem,Nat.reduceAdd,Nat.reduceSub,Nat.reduceLeDiff,Nat.reduceEqDiff,Nat.reduceBEq,Nat.reduceMul,Nat.reduceLT,Int.reduceLE,Int.reduceLT,Int.reduceToNat,Int.reduceBEq,Int.reduceEq,f90,Option.getD_some,mixed,H8 X n];exact rfl
def acR(X:jZ)(n:Nat):Nat->kj->kj->(List kj)->jP->Option Tx
 |0,_,_,_,_=>none
 |m+1,v0,v1,v2,o0=>(Km X n).1 m v0 v1 v2 o0
def Xq(X:jZ)(n:Nat):∀(m:Nat),(∀(v0 v1:kj)(v2:List kj)(o0:jP),run (zZ X n) [.lq m [0,0,1,1,1],.qg 0,.cut [1,1,1,1],.at [1,1,1,1]] ⟨[.ptr 0 0,.str (sb v0),.str (sb v1),qA,qA,qA,qA,.kF true 1 (mp kX v2),qA,qA,qA,qA,qA,qA,qA,qA,qA,qA,qA,qA,qA,qA,qA,qA,qA,qA,qA,qA,qA,qA,qA,qA,qA,qA,qA,qA,qA,qA,qA,qA,qA,qA,qA,qA,qA,qA,qA,qA,qA,qA,qA,qA,qA,qA],[.cells (jP.cells o0)],1,[]⟩=acR X n m v0 v1 v2 o0)
 |0=>by intros;exact Li
 |m+1=>by
  intro v0 v1 v2 o0;rw[D3];exact(Km X n).2 m v0 v1 v2 o0
def EO(X:jZ)(n:Nat):SX (zZ X n) (lX 0 (lW mo (lW mo kJ))) jO 54 ur:=by
 apply Subtype.mk
 repeat (first|refine Prod.forall.2 ?_|intro)
 simp (config:={maxSteps:=100000000}) only[go_sem,Nat.reduceAdd,Nat.reduceSub,Nat.reduceLeDiff,Nat.reduceEqDiff,Nat.reduceBEq,Nat.reduceMul,Nat.reduceLT,Int.reduceLE,Int.reduceLT,Int.reduceToNat,Int.reduceBEq,Int.reduceEq,f90,Option.getD_some,mixed,H8 X n,Xq X n];exact rfl
open Go.Proofs
@[reducible] def CR(X:jZ)(n:Nat):kK Td:=nh gP f87 n (qL gP [.cell 4 37] [] [0] 1 jO (lW (kZ Syntax.kv) kJ)) (cl:=l6 [(88,Ah [0] (uf (Ax jP.kv) sM) (XA 0 IJ) (uf (Ax jP.kv) sM) (VQ mo F8) (fun(b:Te) a=>(mZ n) b.1)),(150,Ah [0] (uf (Ax jP.kv) sM) (XA 0 IJ) (uf (Ax jP.kv) sM) (VQ (kZ Syntax.kv) F8) (fun(b:Te) a=>(KU n) b.1)),(153,Ah [0] (uf (Ax jP.kv) sM) (XA 0 (asT mo IJ)) (uf (Ax jP.kv) sM) (VQ mw F8) (fun(b:Te) a=>(nM n) b.1 a.1))]) (rk:=qM [] [0] 1 jO j1) (cp:=Az [(44,nA X.nL),(149,ou (uq n)),(151,pE (qm n))]) (wx:=l2 [44,149,151]) (uz:=l2 []) (uC:=l2 [])
@[go_sem]def akg(X:jZ)(n:Nat):so (CR X n) [0,1,1,1,1,1,1,1,1,1]=true:=jN
@[go_sem]def akh(X:jZ)(n:Nat):xR (CR X n) [0,1,1,1,1,1,1,1,1,1] 0 7 1 7 2 7 0 9/\xR (CR X n) [0,1,1,1,1,1,1,1,1,1] 1 9 2 9 5 9 7 9:=⟨⟨jN,jN,jN,jN⟩,jN,jN,jN,jN⟩
def Jr(X:jZ)(n:Nat):SX (CR X n) (lX 0 (lW (lr .i64) kJ)) jO 48 pY:=mC2
open Go.Proofs
@[reducible] def uO(X:jZ)(n:Nat):kK Td:=nh gP f92 n (qL gP [.cell 4 37] [] [0] 1 jO (lW (kZ Syntax.kv) kJ)) (cl:=l6 [(153,Ah [0] (uf (Ax jP.kv) sM) (XA 0 (asT mo IJ)) (uf (Ax jP.kv) sM) (VQ mw F8) (fun(b:Te) a=>(nM n) b.1 a.1)),(155,nP (lA kW) (kZ Syntax.kv) (lA j8.row) (ad9 n)),(157,Ah [0] (uf (Ax jP.kv) sM) (XA 0 (asT (lr .i64) IJ)) (uf (Ax jP.kv) sM) (VQ (lA kW) F8) (fun(b:Te) a=>(Pa n) b.1 a.1))]) (cd:=Bp [(152,pR (Zv (kZ Syntax.kv) (lA j8.row) (kZ Syntax.kv) (kZ Syntax.kv) (YV n)))]) (rk:=qM [] [0] 1 jO j1) (co:=aQQ [(44,IK [.arg 0 []] jO (lX 0 kJ) jO (lW (kZ Syntax.kv) kJ) jO j1 (k9 X.nL))]) (cp:=Az [(156,nA X.vS)]) (wx:=l2 [156]) (uz:=l2 [44]) (uC:=l2 [])
def ago(X:jZ)(n:Nat):so (uO X n) [0,1,1,1,1,1,1]=true:=jN
def agp(X:jZ)(n:Nat):auY (uO X n) [0,1,1,1,1,1,1] 1 7 5 7:=⟨jN,jN⟩
def agq(X:jZ)(n:Nat):OD (uO X n) [0,1,1,1,1,1,1] 5 6=true/\OD (uO X n) [0,1,1,1,1,1,1] 5 7=true/\Zt (uO X n) [0,1,1,1,1,1,1] 5=false:=⟨jN,jN,jN⟩
attribute [go_sem] ago agp agq
def F0(X:jZ)(n:Nat):SX (uO X n) (lX 0 (lW (lr .i64) kJ)) jO 55 pY:=mC2
open Go.Proofs
@[go_sem]def UU:ua:=⟨[(3,8,true)],[],(zK::zA::zK::zK::wv (l7 (l7 (l7 [])))),[oT jP.kv,oK,oA Syntax.row],none,none⟩
@[reducible] def Xr(X:jZ)(n:Nat):kK Td:=nh gP f156 n (qL gP [.cell 2 37] [] [0] 1 jO (lW (kZ Syntax.kv) kJ)) (cl:=l6 [(209,DX (pR (nq (uL jP.kv) mw (EC n)))),(210,DX (pR (nq (uL jP.kv) mw (HB n)))),(212,nP (lA jR.row) (lA Syntax.row) (ty3 (kZ Syntax.kv) (lr .i64) (lr .i64)) (ai1 n))]) (qj:=oz [([0,0,1,1],UU)]) (rk:=qM [] [0] 1 jO j1) (cp:=Az [(82,mb (nW n)),(93,sF (qd n)),(148,mb (vJ n)),(211,nA X.tX)]) (wx:=l2 [82,93,148,211])
@[go_sem]abbrev UV(o0:jP)(r2:List Syntax)(c2:Nat):jS:=⟨(.ptr 0 0::qA::.ptr 1 0::.lR 2 c2::wu (mm (mm (mm [])))),[.cells (jP.cells o0),.cells [.int .i64 0,.str (sb []),.int .i64 0,.kF true 0 [],.kF true 0 [],.kF true 0 [],.int .i64 0,.int .i64 0],.lR true 8 (mp Syntax.cells r2)],1,[]⟩
abbrev UW:=jP->(List Syntax)->Option Td
abbrev aki(X:jZ)(n:Nat)(K:List Kt)(Z:UW):Prop:=∀o0 r2 c2,c2=r2.length->run (Xr X n) K (UV o0 r2 c2)=Z o0 r2
def Js(X:jZ)(n:Nat):LB (aki X n) [0,0,1,1] [.qg 0,.cut [1,1,1],.at [1,1,1]]:=mB2
def Jt(X:jZ)(n:Nat):Nat->UW:=ui ((Js X n).1)
def ayX(X:jZ){n:Nat}:Jt X n (m+1)=(Js X n).1 (Jt X n m):=rfl
@[go_sem]def aey(X:jZ)(n:Nat)(m:Nat):=vi (Js X n) (Jt X n) m
def K3(X:jZ)(n:Nat):SX (Xr X n) (lX 0 kJ) jO 80 k9:=mC2
open Go.Proofs
@[reducible] def ai8(X:jZ)(n:Nat):kK Td:=nh gP f211 n (qL gP [.cell 2 37] [] [0] 1 jO (lW (kZ Syntax.kv) kJ)) (cl:=l6 [(84,DX (pR (nq (uL jP.kv) (lr .i64) (vD n)))),(88,Ah [0] (uf (Ax jP.kv) sM) (XA 0 IJ) (uf (Ax jP.kv) sM) (VQ mo F8) (fun(b:Te) a=>(mZ n) b.1)),(205,DX (pR (nq (uL jP.kv) (lr .i64) (uF n)))),(209,DX (pR (nq (uL jP.kv) mw (EC n))))]) (rk:=qM [] [0] 1 jO j1) (cp:=Az [(250,nA X.uK)]) (wx:=l2 [250])
def H9(X:jZ)(n:Nat):SX (ai8 X n) (lX 0 kJ) jO 25 k9:=mC2
open Go.Proofs
@[go_sem]def Sb:ua:=⟨[],[],(zK::zA::zK::zK::zK::lH (l7 (zA::zA::zA::[]))),[oT jP.kv,oK,oT Syntax.kv],none,none⟩
@[reducible] def UX(X:jZ)(n:Nat):kK Td:=nh gP f250 n (qL gP [.cell 2 37] [] [0] 1 jO (lW (kZ Syntax.kv) kJ)) (cl:=l6 [(210,DX (pR (nq (uL jP.kv) mw (HB n))))]) (qj:=oz [([0,1,0,1,1],Sb)]) (rk:=qM [] [0] 1 jO j1) (cp:=Az [(82,mb (nW n)),(282,nA X.tY)]) (wx:=l2 [82,282])
@[go_sem]abbrev Sc(v0:Int)(o0:jP)(o2:Syntax):jS:=⟨(.ptr 0 0::qA::.ptr 1 0::.ptr 2 0::.int .i64 v0::lK (mm (qA::qA::qA::[]))),[.cells (jP.cells o0),.cells [.int .i64 0,.str (sb []),.int .i64 0,.kF true 0 [],.kF true 0 [],.kF true 0 [],.int .i64 0,.int .i64 0],.cells (Syntax.cells o2)],1,[]⟩
abbrev vT:=Int->jP->Syntax->Option Td
abbrev ai9(X:jZ)(n:Nat)(K:List Kt)(Z:vT):Prop:=∀v0 o0 o2,run (UX X n) K (Sc v0 o0 o2)=Z v0 o0 o2
def Ia(X:jZ)(n:Nat):LB (ai9 X n) [0,1,0,1,1] [.qg 0,.cut [1,1,1],.at [1,1,1]]:=mB2
def Ib(X:jZ)(n:Nat):Nat->vT:=ui ((Ia X n).1)
def ays(X:jZ){n:Nat}:Ib X n (m+1)=(Ia X n).1 (Ib X n m):=rfl
@[go_sem]def acS(X:jZ)(n:Nat)(m:Nat):=vi (Ia X n) (Ib X n) m
def Ju(X:jZ)(n:Nat):SX (UX X n) (lX 0 kJ) jO 28 k9:=mC2
open Go.Proofs
def Px:ua:=⟨[],[],(zK::zA::zK::zK::zK::lH (lH (l7 []))),[oT jP.kv,oK,oT Syntax.kv],none,none⟩
@[reducible] def B0(X:jZ)(n:Nat):kK Td:=nh gP f282 n (qL gP [.cell 2 37] [] [0] 1 jO (lW (kZ Syntax.kv) kJ)) (cl:=l6 [(88,Ah [0] (uf (Ax jP.kv) sM) (XA 0 IJ) (uf (Ax jP.kv) sM) (VQ mo F8) (fun(b:Te) a=>(mZ n) b.1)),(91,DX (pR (nP (uL jP.kv) mo mw (qc n))))]) (qj:=oz [([0,1,0,1,1],Px)]) (rk:=qM [] [0] 1 jO j1) (co:=aQQ [(205,aeY (pR (nq (uL jP.kv) (lr .i64) (uF n))))]) (cp:=Az [(82,mb (nW n)),(304,nA X.s4)]) (wx:=l2 [82,304]) (uz:=l2 [205]) (uC:=l2 [])
def aja(X:jZ)(n:Nat):so (B0 X n) [1,1,1,0,0,1,0,0,1,0,1,1]=true:=jN
def ajb(X:jZ)(n:Nat):aDH (B0 X n) [1,1,1,0,0,1,0,0,1,0,1,1] 1 10 4 10 8 10:=⟨jN,jN,jN⟩
attribute [go_sem] aja ajb Px
@[go_sem]abbrev Py(v0:Int)(o0:jP)(o2:Syntax):jS:=⟨(.ptr 0 0::qA::.ptr 1 0::.ptr 2 0::.int .i64 v0::lK (lK (mm []))),[.cells (jP.cells o0),.cells [.int .i64 0,.str (sb []),.int .i64 0,.kF true 0 [],.kF true 0 [],.kF true 0 [],.int .i64 0,.int .i64 0],.cells (Syntax.cells o2)],1,[]⟩
abbrev agr(X:jZ)(n:Nat)(K:List Kt)(Z:vT):Prop:=∀v0 o0 o2,run (B0 X n) K (Py v0 o0 o2)=Z v0 o0 o2
def F1(X:jZ)(n:Nat):LB (agr X n) [0,1,0,1,1] [.qg 0,.cut [1,1,1],.at [1,1,1]]:=mB2
def F2(X:jZ)(n:Nat):Nat->vT:=ui ((F1 X n).1)
def awK(X:jZ){n:Nat}:F2 X n (m+1)=(F1 X n).1 (F2 X n m):=rfl
@[go_sem]def aaQ(X:jZ)(n:Nat)(m:Nat):=vi (F1 X n) (F2 X n) m
def Ic(X:jZ)(n:Nat):SX (B0 X n) (lX 0 kJ) jO 41 k9:=mC2
open Go.Proofs
@[reducible] def ags(X:jZ)(n:Nat):kK Td:=nh gP f304 n (qL gP [.cell 2 37] [] [0] 1 jO (lW (kZ Syntax.kv) kJ)) (cl:=l6 [(84,DX (pR (nq (uL jP.kv) (lr .i64) (vD n)))),(153,Ah [0] (uf (Ax jP.kv) sM) (XA 0 (asT mo IJ)) (uf (Ax jP.kv) sM) (VQ mw F8) (fun(b:Te) a=>(nM n) b.1 a.1)),(205,DX (pR (nq (uL jP.kv) (lr .i64) (uF n))))]) (rk:=qM [] [0] 1 jO j1) (cp:=Az [(319,Oo X.su),(320,yp X.tZ)]) (wx:=l2 [319,320])
def F3(X:jZ)(n:Nat):SX (ags X n) (lX 0 kJ) jO 24 k9:=mC2
open Go.Proofs
def L5:ua:=⟨[],[],(zK::zA::zA::zK::zK::zA::zK::zK::zK::wv (lH (l7 (l7 (zA::zA::zA::[]))))),[oT jP.kv,oT Syntax.kv,oK,oD,oA Syntax.row,oT Syntax.kv],none,none⟩
def L6:ua:=⟨[],[],(zK::zA::zA::zK::zK::zA::zK::wv (lH (l7 (l7 (l7 (zA::[])))))),[oT jP.kv,oT Syntax.kv,oK,oD,oA Syntax.row],none,none⟩
@[reducible] def mP(X:jZ)(n:Nat):kK Td:=nh gP f319 n (qL gP [.cell 4 37] [] [0] 1 jO (lW (kZ Syntax.kv) kJ)) (cl:=l6 [(153,Ah [0] (uf (Ax jP.kv) sM) (XA 0 (asT mo IJ)) (uf (Ax jP.kv) sM) (VQ mw F8) (fun(b:Te) a=>(nM n) b.1 a.1)),(205,DX (pR (nq (uL jP.kv) (lr .i64) (uF n))))]) (qj:=oz [([0,1,0,1,1,1,1,1,1,1,1],L5),([0,0,1,1,1,1,1],L6)]) (rk:=qM [] [0] 1 jO j1) (co:=aQQ [(44,IK [.arg 0 []] jO (lX 0 kJ) jO (lW (kZ Syntax.kv) kJ) jO j1 (k9 X.nL)),(91,aeY (pR (nP (uL jP.kv) mo mw (qc n)))),(93,IK [.arg 0 []] jO (lX 0 (lW mw kJ)) jO kJ jO j1 (sE (qd n))),(205,aeY (pR (nq (uL jP.kv) (lr .i64) (uF n))))]) (cp:=Az [(44,nA X.nL),(82,mb (nW n)),(151,pE (qm n))]) (wx:=l2 [44,82,151]) (uz:=l2 [44,91,93,205]) (uC:=l2 [])
def aez(X:jZ)(n:Nat):aIu (mP X n) [0,0,1,0,0,1,0,1,1,1,1,1,1,1,1] [0,0,1,1,1,0,0,1,1] [0,1,1,1]:=⟨jN,jN,jN⟩
def aeA(X:jZ)(n:Nat):xR (mP X n) [0,0,1,0,0,1,0,1,1,1,1,1,1,1,1] 2 16 3 16 4 16 8 16/\auY (mP X n) [0,0,1,0,0,1,0,1,1,1,1,1,1,1,1] 10 16 14 16/\xR (mP X n) [0,0,1,1,1,0,0,1,1] 2 5 0 7 2 7 5 7/\Mt (mP X n) [0,1,1,1] 6 7=true:=⟨⟨jN,jN,jN,jN⟩,⟨jN,jN⟩,⟨jN,jN,jN,jN⟩,jN⟩
def aeB(X:jZ)(n:Nat):OD (mP X n) [0,0,1,1,1,0,0,1,1] 2 3=true/\OD (mP X n) [0,0,1,1,1,0,0,1,1] 2 4=false/\OD (mP X n) [0,0,1,1,1,0,0,1,1] 2 5=true/\OD (mP X n) [0,0,1,1,1,0,0,1,1] 2 6=true/\OD (mP X n) [0,0,1,1,1,0,0,1,1] 2 7=true/\Zt (mP X n) [0,0,1,1,1,0,0,1,1] 2=false/\Zt (mP X n) [0,1,1,1] 7=true:=⟨jN,jN,jN,jN,jN,jN,jN⟩
attribute [go_sem] aez aeA aeB L5 L6
abbrev L7(v0:Int)(o0:jP)(o1:Syntax)(r4:List Syntax)(o5:Syntax)(c4:Nat):jS:=⟨(.ptr 0 0::qA::qA::.ptr 1 0::.ptr 2 0::qA::.lR 4 c4::.ptr 5 0::.int .i64 v0::wu (lK (mm (mm (qA::qA::qA::[]))))),[.cells (jP.cells o0),.cells (Syntax.cells o1),.cells [.int .i64 0,.str (sb []),.int .i64 0,.kF true 0 [],.kF true 0 [],.kF true 0 [],.int .i64 0,.int .i64 0],.vZ,.lR true 8 (mp Syntax.cells r4),.cells (Syntax.cells o5)],1,[]⟩
abbrev L8:List Kt:=[.qg 3,.cut [1,1,1,1,1,1,1,1,1],.at [1,1,1,1,1,1,1,1,1]]
abbrev L9:=Int->jP->Syntax->(List Syntax)->Syntax->Option Td
abbrev acT(X:jZ)(n:Nat)(K:List Kt)(Z:L9):Prop:=∀v0 o0 o1 r4 o5 c4,c4=r4.length->run (mP X n) K (L7 v0 o0 o1 r4 o5 c4)=Z v0 o0 o1 r4 o5
abbrev Ma(o0:jP)(o1:Syntax)(r4:List Syntax)(c4:Nat):jS:=⟨(.ptr 0 0::qA::qA::.ptr 1 0::.ptr 2 0::qA::.lR 4 c4::wu (lK (mm (mm (mm (qA::[])))))),[.cells (jP.cells o0),.cells (Syntax.cells o1),.cells [.int .i64 0,.str (sb []),.int .i64 0,.kF true 0 [],.kF true 0 [],.kF true 0 [],.int .i64 0,.int .i64 0],.vZ,.lR true 8 (mp Syntax.cells r4)],1,[]⟩
abbrev Mb:=jP->Syntax->(List Syntax)->Option Td
abbrev acU(X:jZ)(n:Nat)(K:List Kt)(Z:Mb):Prop:=∀o0 o1 r4 c4,c4=r4.length->run (mP X n) K (Ma o0 o1 r4 c4)=Z o0 o1 r4
attribute [go_sem] L7 L8 Ma
def DQ(X:jZ)(n:Nat):LB (acT X n) [0,1,0,1,1,1,1,1,1,1,1] L8:=mB2
def DR(X:jZ)(n:Nat):Nat->L9:=ui ((DQ X n).1)
def auA(X:jZ){n:Nat}:DR X n (m+1)=(DQ X n).1 (DR X n m):=rfl
@[go_sem]def Xs(X:jZ)(n:Nat)(m:Nat):=vi (DQ X n) (DR X n) m
def DS(X:jZ)(n:Nat):LB (acU X n) [0,0,1,1,1,1,1] [.qg 1,.cut [1,1,1,1,1,1],.at [1,1,1,1,1,1]]:=mB2
def DT(X:jZ)(n:Nat):Nat->Mb:=ui ((DS X n).1)
def auB(X:jZ){n:Nat}:DT X n (m+1)=(DS X n).1 (DT X n m):=rfl
@[go_sem]def Xt(X:jZ)(n:Nat)(m:Nat):=vi (DS X n) (DT X n) m
def EP(X:jZ)(n:Nat):SX (mP X n) (lX 0 (lW (kZ Syntax.kv) kJ)) jO 100 wW:=mC2
open Go.Proofs
@[reducible] def ajc(X:jZ)(n:Nat):kK Th:=nh gP f320 n (qL gP [] [] [0,1] 2 kS kJ) (cl:=l6 [(85,DX (pR (Zv (uL jP.kv) (lr .i64) mo mw (Al n)))),(88,Ah [0] (uf (Ax jP.kv) sM) (XA 0 IJ) (uf (Ax jP.kv) sM) (VQ mo F8) (fun(b:Te) a=>(mZ n) b.1)),(94,DX (pR (nq (uL jP.kv) (kZ lz.kv) (nr n)))),(153,Ah [0] (uf (Ax jP.kv) sM) (XA 0 (asT mo IJ)) (uf (Ax jP.kv) sM) (VQ mw F8) (fun(b:Te) a=>(nM n) b.1 a.1))]) (rk:=qM [] [0,1] 2 kS j1) (cp:=Az [(148,mb (vJ n)),(151,pE (qm n)),(325,Of (R4 n)),(326,ou (KY n)),(327,zQ (BU n)),(328,FX (Zd n)),(329,DN X.qu)]) (wx:=l2 [148,151,325,326,327,328,329])
def Ie(X:jZ)(n:Nat):SX (ajc X n) (lX 0 (lX 1 kJ)) kS 135 pF:=mC2
open Go.Proofs
@[go_sem]def Kn:ua:=⟨[(3,8,true)],[],(zK::zA::zA::zK::lH (l7 (zA::zA::[]))),[oT jP.kv,oA Syntax.row],none,none⟩
@[reducible] def Mc(X:jZ)(n:Nat):kK TP:=nh gP f329 n (qL gP [.tmp 2] [] [0] 1 jO (lW (lA Syntax.row) kJ)) (cl:=l6 [(91,DX (pR (nP (uL jP.kv) mo mw (qc n)))),(153,Ah [0] (uf (Ax jP.kv) sM) (XA 0 (asT mo IJ)) (uf (Ax jP.kv) sM) (VQ mw F8) (fun(b:Te) a=>(nM n) b.1 a.1))]) (qj:=oz [([0,0,1,1],Kn)]) (rk:=qM [] [0] 1 jO j1) (cp:=Az [(82,mb (nW n)),(334,nA X.pG)]) (wx:=l2 [82,334])
@[go_sem]abbrev Ko(o0:jP)(r1:List Syntax)(c1:Nat):jS:=⟨(.ptr 0 0::qA::qA::.lR 1 c1::lK (mm (qA::qA::[]))),[.cells (jP.cells o0),.lR true 8 (mp Syntax.cells r1)],1,[]⟩
abbrev Kp:=jP->(List Syntax)->Option TP
abbrev aaR(X:jZ)(n:Nat)(K:List Kt)(Z:Kp):Prop:=∀o0 r1 c1,c1=r1.length->run (Mc X n) K (Ko o0 r1 c1)=Z o0 r1
def Cj(X:jZ)(n:Nat):LB (aaR X n) [0,0,1,1] [.qg 0,.cut [1,1,1],.at [1,1,1]]:=mB2
def Ck(X:jZ)(n:Nat):Nat->Kp:=ui ((Cj X n).1)
def at7(X:jZ){n:Nat}:Ck X n (m+1)=(Cj X n).1 (Ck X n m):=rfl
@[go_sem]def Vt(X:jZ)(n:Nat)(m:Nat):=vi (Cj X n) (Ck X n) m
def DU(X:jZ)(n:Nat):SX (Mc X n) (lX 0 kJ) jO 26 vR:=mC2
open Go.Proofs
@[go_sem]def Ea:ua:=⟨[],[],(zK::zA::zK::zK::zK::lH (l7 (l7 (zA::[])))),[oT jP.kv,oK,oT Syntax.kv],none,none⟩
@[reducible] def Fj(X:jZ)(n:Nat):kK Td:=nh gP f334 n (qL gP [.cell 2 37] [] [0] 1 jO (lW (kZ Syntax.kv) kJ)) (cl:=l6 [(153,Ah [0] (uf (Ax jP.kv) sM) (XA 0 (asT mo IJ)) (uf (Ax jP.kv) sM) (VQ mw F8) (fun(b:Te) a=>(nM n) b.1 a.1))]) (qj:=oz [([0,1,0,1,1],Ea)]) (rk:=qM [] [0] 1 jO j1) (cp:=Az [(82,mb (nW n)),(338,nA X.qZ)]) (wx:=l2 [82,338])
@[go_sem]abbrev Eb(v0:Int)(o0:jP)(o2:Syntax):jS:=⟨(.ptr 0 0::qA::.ptr 1 0::.ptr 2 0::.int .i64 v0::lK (mm (mm (qA::[])))),[.cells (jP.cells o0),.cells [.int .i64 0,.str (sb []),.int .i64 0,.kF true 0 [],.kF true 0 [],.kF true 0 [],.int .i64 0,.int .i64 0],.cells (Syntax.cells o2)],1,[]⟩
abbrev Sd(X:jZ)(n:Nat)(K:List Kt)(Z:vT):Prop:=∀v0 o0 o2,run (Fj X n) K (Eb v0 o0 o2)=Z v0 o0 o2
def yq(X:jZ)(n:Nat):LB (Sd X n) [0,1,0,1,1] [.qg 0,.cut [1,1,1],.at [1,1,1]]:=mB2
def yt(X:jZ)(n:Nat):Nat->vT:=ui ((yq X n).1)
def aoE(X:jZ){n:Nat}:yt X n (m+1)=(yq X n).1 (yt X n m):=rfl
@[go_sem]def Oq(X:jZ)(n:Nat)(m:Nat):=vi (yq X n) (yt X n) m
def yW(X:jZ)(n:Nat):SX (Fj X n) (lX 0 kJ) jO 30 k9:=mC2
open Go.Proofs
@[reducible] def p6(X:jZ)(n:Nat):kK Td:=nh gP f338 n (as2 (VV [(346,OO [.arg 0 [],.vA 0 0 []] lF (lX 0 kJ) lF kJ (fun(b:(Unit×T6))(a:Unit)=>(Br n) b.2.1.1))]) (qL gP [.cell 2 37] [] [0] 1 jO (lW (kZ Syntax.kv) kJ)) (qM [] [0] 1 jO j1)) (cl:=l6 [(91,DX (pR (nP (uL jP.kv) mo mw (qc n)))),(205,DX (pR (nq (uL jP.kv) (lr .i64) (uF n))))]) (rk:=as3 (VV [(346,OO [.arg 0 [],.vA 0 0 []] lF (lX 0 kJ) lF kJ (fun(b:(Unit×T6))(a:Unit)=>(Br n) b.2.1.1))]) (qL gP [.cell 2 37] [] [0] 1 jO (lW (kZ Syntax.kv) kJ)) (qM [] [0] 1 jO j1)) (co:=aQQ [(82,IK [.arg 0 []] jO (lX 0 (lW (lr .i64) kJ)) jO kJ jO j1 (p5 (nW n))),(84,aeY (pR (nq (uL jP.kv) (lr .i64) (vD n)))),(93,IK [.arg 0 []] jO (lX 0 (lW mw kJ)) jO kJ jO j1 (sE (qd n))),(94,aeY (pR (nq (uL jP.kv) (kZ lz.kv) (nr n))))]) (cp:=Az [(347,yp X.rI),(348,yp X.s5)]) (wx:=l2 [347,348]) (uz:=l2 [82,84,93,94]) (uC:=l2 [])
def aeC(X:jZ)(n:Nat):aIu (p6 X n) [0,1] [0,1,1,0,1,1,1,1,1] [0,1,1,1,1]:=⟨jN,jN,jN⟩
def aeD(X:jZ)(n:Nat):aDH (p6 X n) [0,1] 0 7 3 7 6 7/\xR (p6 X n) [0,1,1,0,1,1,1,1,1] 3 6 0 9 3 9 6 9/\xR (p6 X n) [0,1,1,1,1] 0 3 0 8 3 8 5 8/\xR (p6 X n) [0,1,1,1,1] 0 11 3 11 5 11 8 11/\Mt (p6 X n) [0,1,1,1,1] 10 11=true:=⟨⟨jN,jN,jN⟩,⟨jN,jN,jN,jN⟩,⟨jN,jN,jN,jN⟩,⟨jN,jN,jN,jN⟩,jN⟩
def aeE(X:jZ)(n:Nat):Zt (p6 X n) [0,1] 7=true/\Zt (p6 X n) [0,1,1,0,1,1,1,1,1] 9=true:=⟨jN,jN⟩
attribute [go_sem] aeC aeD aeE
def EQ(X:jZ)(n:Nat):SX (p6 X n) (lX 0 kJ) jO 54 k9:=mC2
open Go.Proofs
@[reducible] def agt(X:jZ)(n:Nat):kK Th:=nh gP f347 n (qL gP [] [] [0,1] 2 kS kJ) (rk:=qM [] [0,1] 2 kS j1) (cp:=Az [(151,pE (qm n)),(329,DN X.qu)]) (wx:=l2 [151,329])
def F4(X:jZ)(n:Nat):SX (agt X n) (lX 0 (lX 1 kJ)) kS 17 pF:=mC2
open Go.Proofs
def Ot:ua:=⟨[],[],(zK::zK::wv (wv (l7 (l7 (l7 (zA::zA::zA::[])))))),[oT jP.kv,oC [zK,zK,zK,zK,zT (lA jX.row),zT (lA Syntax.row),zK,zK],oA kW],none,none⟩
@[reducible] def tj(X:jZ)(n:Nat):kK Th:=nh gP f348 n (qL gP [] [] [0,1] 2 kS kJ) (cl:=l6 [(88,Ah [0] (uf (Ax jP.kv) sM) (XA 0 IJ) (uf (Ax jP.kv) sM) (VQ mo F8) (fun(b:Te) a=>(mZ n) b.1)),(94,DX (pR (nq (uL jP.kv) (kZ lz.kv) (nr n))))]) (qj:=oz [([0,1,1,0,1,1,1,1,1,1,1,1,1,1,1,1,1,0,1],Ot)]) (rk:=qM [] [0,1] 2 kS j1) (co:=aQQ [(82,IK [.arg 0 []] jO (lX 0 (lW (lr .i64) kJ)) jO kJ jO j1 (p5 (nW n))),(88,IK [.arg 0 []] jO (lX 0 kJ) jO (lW mo kJ) jO (lW mo kJ) (fun(b:T6)(a:Unit)=>((aRr n) b.1.1).map fun r=>(PR.ok r:PR TJ TJ)))]) (cp:=Az [(44,nA X.nL),(148,mb (vJ n)),(149,ou (uq n)),(326,ou (KY n)),(338,nA X.qZ),(340,ou (Cf n)),(347,yp X.rI),(352,I0 (L1 n))]) (wx:=l2 [44,148,149,326,338,340,347,352]) (uz:=l2 [82,88]) (uC:=l2 [])
def agu(X:jZ)(n:Nat):anm (tj X n) [0,0,1,0,0,1,1,0,1,1,1,1,1,1,1,1,1,1,1,1,1,0,1] [1,0,1,0,0,1,1,0,1,1,1,1,1,1,1,1,1,1,1,1,1,0,1]:=⟨jN,jN⟩
def agv(X:jZ)(n:Nat):auY (tj X n) [0,0,1,0,0,1,1,0,1,1,1,1,1,1,1,1,1,1,1,1,1,0,1] 6 8 7 8/\xR (tj X n) [1,0,1,0,0,1,1,0,1,1,1,1,1,1,1,1,1,1,1,1,1,0,1] 4 10 8 10 4 13 8 13/\Mt (tj X n) [1,0,1,0,0,1,1,0,1,1,1,1,1,1,1,1,1,1,1,1,1,0,1] 10 13=true:=⟨⟨jN,jN⟩,⟨jN,jN,jN,jN⟩,jN⟩
def agw(X:jZ)(n:Nat):Zt (tj X n) [0,0,1,0,0,1,1,0,1,1,1,1,1,1,1,1,1,1,1,1,1,0,1] 8=true:=jN
attribute [go_sem] agu agv agw Ot
@[go_sem]abbrev Ou(o0:jP)(v1:Int)(v2:kj)(v3:Int)(v4:List jX)(v5:List Syntax)(v6 v7:Int)(r2:List kj)(c2:Nat):jS:=⟨(.ptr 0 0::.ptr 1 0::wu (wu (mm (mm (mm (qA::qA::qA::[])))))),[.cells (jP.cells o0),.cells [.int .i64 v1,.str (sb v2),.int .i64 v3,.lR 2 c2,.kF false 2 (mp jX.cells v4),.kF false 8 (mp Syntax.cells v5),.int .i64 v6,.int .i64 v7],.lR true 1 (mp kX r2)],2,[]⟩
abbrev Ov:=jP->Int->kj->Int->Tk->(List Syntax)->Int->Int->(List kj)->Option Th
abbrev aeF(X:jZ)(n:Nat)(K:List Kt)(Z:Ov):Prop:=∀o0 v1 v2 v3 v4 v5 v6 v7 r2 c2,c2=r2.length->run (tj X n) K (Ou o0 v1 v2 v3 v4 v5 v6 v7 r2 c2)=Z o0 v1 v2 v3 v4 v5 v6 v7 r2
def ER(X:jZ)(n:Nat):LB (aeF X n) [0,1,1,0,1,1,1,1,1,1,1,1,1,1,1,1,1,0,1] [.qg 1,.qg 0]:=mB2
def ES(X:jZ)(n:Nat):Nat->Ov:=ui ((ER X n).1)
def avK(X:jZ){n:Nat}:ES X n (m+1)=(ER X n).1 (ES X n m):=rfl
@[go_sem]def X8(X:jZ)(n:Nat)(m:Nat):=vi (ER X n) (ES X n) m
def F5(X:jZ)(n:Nat):SX (tj X n) (lX 0 (lX 1 kJ)) kS 145 pF:=mC2
open Go.Proofs
@[reducible] def tM(X:jZ)(n:Nat):kK Td:=nh gP f89 n (qL gP [.cell 8 37] [] [0] 1 jO (lW (kZ Syntax.kv) kJ)) (cd:=Bp [(152,pR (Zv (kZ Syntax.kv) (lA j8.row) (kZ Syntax.kv) (kZ Syntax.kv) (YV n)))]) (rk:=qM [] [0] 1 jO j1) (co:=aQQ [(44,IK [.arg 0 []] jO (lX 0 kJ) jO (lW (kZ Syntax.kv) kJ) jO j1 (k9 X.nL))]) (cp:=Az [(151,pE (qm n))]) (wx:=l2 [151]) (uz:=l2 [44]) (uC:=l2 [])
def acV(X:jZ)(n:Nat):so (tM X n) [0,1,1]=true:=jN
def acW(X:jZ)(n:Nat):auY (tM X n) [0,1,1] 0 5 3 5:=⟨jN,jN⟩
def acX(X:jZ)(n:Nat):OD (tM X n) [0,1,1] 3 4=true/\OD (tM X n) [0,1,1] 3 5=true/\Zt (tM X n) [0,1,1] 3=false:=⟨jN,jN,jN⟩
attribute [go_sem] acV acW acX
def DV(X:jZ)(n:Nat):SX (tM X n) sY jO 19 tL:=mC2
open Go.Proofs
def jY:Nat->jZ
 |0=>⟨Fu.z,Fu.z,Fu.z,Fu.z,Fu.z,Fu.z,Fu.z,Fu.z,Fu.z,Fu.z,Fu.z,Fu.z,Fu.z,Fu.z,Fu.z,Fu.z,Fu.z,Fu.z⟩
 |n+1=>⟨(HZ (jY n) n).1,(Jq (jY n) n).1,(EO (jY n) n).1,(Jr (jY n) n).1,(F0 (jY n) n).1,(K3 (jY n) n).1,(H9 (jY n) n).1,(Ju (jY n) n).1,(Ic (jY n) n).1,(F3 (jY n) n).1,(EP (jY n) n).1,(Ie (jY n) n).1,(DU (jY n) n).1,(yW (jY n) n).1,(EQ (jY n) n).1,(F4 (jY n) n).1,(F5 (jY n) n).1,(DV (jY n) n).1⟩
def nL:jP->Option Td:=(jY n).nL
def aBk{n:Nat}:nL (n+1)=(HZ (jY n) n).1:=rfl
def uI:Int->jP->Option Td:=(jY n).uI
def aBU{n:Nat}:uI (n+1)=(Jq (jY n) n).1:=rfl
def qY:kj->kj->jP->Option Tx:=(jY n).qY
def ayt{n:Nat}:qY (n+1)=(EO (jY n) n).1:=rfl
def uJ:Int->jP->Option Td:=(jY n).uJ
def aBV{n:Nat}:uJ (n+1)=(Jr (jY n) n).1:=rfl
def s3:Int->jP->Option Td:=(jY n).s3
def ayY{n:Nat}:s3 (n+1)=(F0 (jY n) n).1:=rfl
def vS:jP->Option Td:=(jY n).vS
def aDR{n:Nat}:vS (n+1)=(K3 (jY n) n).1:=rfl
def tX:jP->Option Td:=(jY n).tX
def aBl{n:Nat}:tX (n+1)=(H9 (jY n) n).1:=rfl
def uK:jP->Option Td:=(jY n).uK
def aBW{n:Nat}:uK (n+1)=(Ju (jY n) n).1:=rfl
def tY:jP->Option Td:=(jY n).tY
def aBm{n:Nat}:tY (n+1)=(Ic (jY n) n).1:=rfl
def s4:jP->Option Td:=(jY n).s4
def ayZ{n:Nat}:s4 (n+1)=(F3 (jY n) n).1:=rfl
def su:Syntax->jP->Option Td:=(jY n).su
def ayu{n:Nat}:su (n+1)=(EP (jY n) n).1:=rfl
def tZ:jP->Syntax->Option Th:=(jY n).tZ
def aBn{n:Nat}:tZ (n+1)=(Ie (jY n) n).1:=rfl
def qu:jP->Option TP:=(jY n).qu
def awL{n:Nat}:qu (n+1)=(DU (jY n) n).1:=rfl
def pG:jP->Option Td:=(jY n).pG
def arD{n:Nat}:pG (n+1)=(yW (jY n) n).1:=rfl
def qZ:jP->Option Td:=(jY n).qZ
def ayv{n:Nat}:qZ (n+1)=(EQ (jY n) n).1:=rfl
def rI:jP->Syntax->Option Th:=(jY n).rI
def ay0{n:Nat}:rI (n+1)=(F4 (jY n) n).1:=rfl
def s5:jP->Syntax->Option Th:=(jY n).s5
def ay1{n:Nat}:s5 (n+1)=(F5 (jY n) n).1:=rfl
def rE:Syntax->TF->kj->jP->Option Td:=(jY n).rE
def awM{n:Nat}:rE (n+1)=(DV (jY n) n).1:=rfl
def ay2{n:Nat}:(jY n).nL=nL n/\(jY n).uI=uI n/\(jY n).qY=qY n/\(jY n).uJ=uJ n/\(jY n).s3=s3 n/\(jY n).vS=vS n/\(jY n).tX=tX n/\(jY n).uK=uK n/\(jY n).tY=tY n/\(jY n).s4=s4 n/\(jY n).su=su n/\(jY n).tZ=tZ n/\(jY n).qu=qu n/\(jY n).pG=pG n/\(jY n).qZ=qZ n/\(jY n).rI=rI n/\(jY n).s5=s5 n/\(jY n).rE=rE n:=⟨rfl,rfl,rfl,rfl,rfl,rfl,rfl,rfl,rfl,rfl,rfl,rfl,rfl,rfl,rfl,rfl,rfl,rfl⟩
def lP:∀n:Nat,tN gP 44 (lX 0 kJ) jO true jO (lW (kZ Syntax.kv) kJ) jO j1 (k9 (jY n).nL)/\tN gP 86 (lX 0 (lW (lr .i64) kJ)) jO true jO (lW (kZ Syntax.kv) kJ) jO j1 (pY (jY n).uI)/\tN gP 90 (lX 0 (lW mo (lW mo kJ))) jO true jO (lW (lA j8.row) kJ) jO j1 (ur (jY n).qY)/\tN gP 87 (lX 0 (lW (lr .i64) kJ)) jO true jO (lW (kZ Syntax.kv) kJ) jO j1 (pY (jY n).uJ)/\tN gP 92 (lX 0 (lW (lr .i64) kJ)) jO true jO (lW (kZ Syntax.kv) kJ) jO j1 (pY (jY n).s3)/\tN gP 156 (lX 0 kJ) jO true jO (lW (kZ Syntax.kv) kJ) jO j1 (k9 (jY n).vS)/\tN gP 211 (lX 0 kJ) jO true jO (lW (kZ Syntax.kv) kJ) jO j1 (k9 (jY n).tX)/\tN gP 250 (lX 0 kJ) jO true jO (lW (kZ Syntax.kv) kJ) jO j1 (k9 (jY n).uK)/\tN gP 282 (lX 0 kJ) jO true jO (lW (kZ Syntax.kv) kJ) jO j1 (k9 (jY n).tY)/\tN gP 304 (lX 0 kJ) jO true jO (lW (kZ Syntax.kv) kJ) jO j1 (k9 (jY n).s4)/\tN gP 319 (lX 0 (lW (kZ Syntax.kv) kJ)) jO true jO (lW (kZ Syntax.kv) kJ) jO j1 (wW (jY n).su)/\tN gP 320 (lX 0 (lX 1 kJ)) kS true kS kJ kS j1 (pF (jY n).tZ)/\tN gP 329 (lX 0 kJ) jO true jO (lW (lA Syntax.row) kJ) jO j1 (vR (jY n).qu)/\tN gP 334 (lX 0 kJ) jO true jO (lW (kZ Syntax.kv) kJ) jO j1 (k9 (jY n).pG)/\tN gP 338 (lX 0 kJ) jO true jO (lW (kZ Syntax.kv) kJ) jO j1 (k9 (jY n).qZ)/\tN gP 347 (lX 0 (lX 1 kJ)) kS true kS kJ kS j1 (pF (jY n).rI)/\tN gP 348 (lX 0 (lX 1 kJ)) kS true kS kJ kS j1 (pF (jY n).s5)/\tN gP 89 sY jO true jO (lW (kZ Syntax.kv) kJ) jO j1 (tL (jY n).rE)
 |0=>⟨fun _ _ _ h=>(by cases h),fun _ _ _ h=>(by cases h),fun _ _ _ h=>(by cases h),fun _ _ _ h=>(by cases h),fun _ _ _ h=>(by cases h),fun _ _ _ h=>(by cases h),fun _ _ _ h=>(by cases h),fun _ _ _ h=>(by cases h),fun _ _ _ h=>(by cases h),fun _ _ _ h=>(by cases h),fun _ _ _ h=>(by cases h),fun _ _ _ h=>(by cases h),fun _ _ _ h=>(by cases h),fun _ _ _ h=>(by cases h),fun _ _ _ h=>(by cases h),fun _ _ _ h=>(by cases h),fun _ _ _ h=>(by cases h),fun _ _ _ h=>(by cases h)⟩
 |n+1=>by
  obtain⟨rF,ajd,Md,aje,aeG,akj,agx,ajf,agy,aeH,acY,agz,Kq,Se,Me,Ow,aeI,aaS⟩:=lP n
  exact⟨aLD (aA1 fun u=>abj awx (fun _ _ _ _=>rfl) (jN) (fun b a r h=>(Wj n) b.2.1.1 r h u)) (HZ (jY n) n) (gd (jQ (qp (nu (uM n))) (jQ (qp (abc (zj n))) (jQ (pq (fun b a r h=>(mq n) b.1 r h)) (jQ (qp (qk (pM n))) jT)))) jU (p:=(kB (k7 (ajd)) (kB (k7 (aje)) (kB (k7 (aeG)) lZ)))) (c:=(nQ (Ay (nE n)) (nQ (Ay (aaS)) (nQ (Ay (Md)) tP))))) func44 ntmps44 results44,
   Ei (Jq (jY n) n) (gd (jQ (pq (fun b a r h=>(mq n) b.1 r h)) (jQ (qp (qk (pM n))) (jQ (pq (fun b a r h=>(aRq n) b.1 r h)) (jQ (Qs (WZ n)) jT)))) jU (p:=(kB (k7 (rF)) (kB (k7 (nE n)) (kB (k7 (Md)) (kB (k7 (uy n)) (kB (k7 (pP n)) lZ))))))) func86 ntmps86 results86,
   Ei (EO (jY n) n) (gd (jQ (pq (fun b a r h=>(mq n) b.1 r h)) (jQ (qp (nu (zO n))) (jQ (lw (afv n)) jT))) jU (p:=(kB (k7 (rF)) (kB (k7 (nE n)) (kB (k7 (uy n)) (kB (k7 (pP n)) lZ)))))) func90 ntmps90 results90,
   Ei (Jr (jY n) n) (gd (jQ (pq (fun b a r h=>(mq n) b.1 r h)) (jQ (pq (fun b a r h=>(aRq n) b.1 r h)) (jQ (pq (fun b a r h=>(nj n) b.1 a.1 r h)) jT))) jU (p:=(kB (k7 (rF)) (kB (k7 (uy n)) (kB (k7 (pP n)) lZ))))) func87 ntmps87 results87,
   Ei (F0 (jY n) n) (gd (jQ (pq (fun b a r h=>(nj n) b.1 a.1 r h)) (jQ (lw (afv n)) (jQ (pq (fun b a r h=>(aaf n) b.1 a.1 r h)) jT))) (lC (abc (WZ n)) jU) (p:=(kB (k7 (akj)) lZ)) (c:=(nQ (Ay (rF)) tP))) func92 ntmps92 results92,
   Ei (K3 (jY n) n) (gd (jQ (qp (nu (IV n))) (jQ (qp (nu (LG n))) (jQ (lw (aon n)) jT))) jU (p:=(kB (k7 (nE n)) (kB (k7 (pN n)) (kB (k7 (vK n)) (kB (k7 (agx)) lZ)))))) func156 ntmps156 results156,
   Ei (H9 (jY n) n) (gd (jQ (qp (nu (uM n))) (jQ (pq (fun b a r h=>(mq n) b.1 r h)) (jQ (qp (nu (tQ n))) (jQ (qp (nu (IV n))) jT)))) jU (p:=(kB (k7 (ajf)) lZ))) func211 ntmps211 results211,
   Ei (Ju (jY n) n) (gd (jQ (qp (nu (LG n))) jT) jU (p:=(kB (k7 (nE n)) (kB (k7 (agy)) lZ)))) func250 ntmps250 results250,
   Ei (Ic (jY n) n) (gd (jQ (pq (fun b a r h=>(mq n) b.1 r h)) (jQ (qp (qk (pM n))) jT)) jU (p:=(kB (k7 (nE n)) (kB (k7 (aeH)) lZ))) (c:=(nQ (QZ (nu (tQ n))) tP))) func282 ntmps282 results282,
   Ei (F3 (jY n) n) (gd (jQ (qp (nu (uM n))) (jQ (pq (fun b a r h=>(nj n) b.1 a.1 r h)) (jQ (qp (nu (tQ n))) jT))) jU (p:=(kB (k7 (acY)) (kB (k7 (agz)) lZ)))) func304 ntmps304 results304,
   Ei (EP (jY n) n) (gd (jQ (pq (fun b a r h=>(nj n) b.1 a.1 r h)) (jQ (qp (nu (tQ n))) jT)) jU (p:=(kB (k7 (rF)) (kB (k7 (nE n)) (kB (k7 (pP n)) lZ)))) (c:=(nQ (Ay (rF)) (nQ (QZ (qk (pM n))) (nQ (Ay (pN n)) (nQ (QZ (nu (tQ n))) tP)))))) func319 ntmps319 results319,
   Ei (Ie (jY n) n) (gd (jQ (qp (abc (zj n))) (jQ (pq (fun b a r h=>(mq n) b.1 r h)) (jQ (qp (nu (mO n))) (jQ (pq (fun b a r h=>(nj n) b.1 a.1 r h)) jT)))) jU (p:=(kB (k7 (vK n)) (kB (k7 (pP n)) (kB (k7 (acJ n)) (kB (k7 (Pj n)) (kB (k7 (DA n)) (kB (k7 (aiU n)) (kB (k7 (Kq)) lZ))))))))) func320 ntmps320 results320,
   Ei (DU (jY n) n) (gd (jQ (qp (qk (pM n))) (jQ (pq (fun b a r h=>(nj n) b.1 a.1 r h)) jT)) jU (p:=(kB (k7 (nE n)) (kB (k7 (Se)) lZ)))) func329 ntmps329 results329,
   Ei (yW (jY n) n) (gd (jQ (pq (fun b a r h=>(nj n) b.1 a.1 r h)) jT) jU (p:=(kB (k7 (nE n)) (kB (k7 (Me)) lZ)))) func334 ntmps334 results334,
   aLD (aA1 fun u=>abj awx (fun _ _ _ _=>rfl) (jN) (fun b a r h=>(SC n) b.2.1.1 r h u)) (EQ (jY n) n) (gd (jQ (qp (qk (pM n))) (jQ (qp (nu (tQ n))) jT)) jU (p:=(kB (k7 (Ow)) (kB (k7 (aeI)) lZ))) (c:=(nQ (Ay (nE n)) (nQ (QZ (nu (uM n))) (nQ (Ay (pN n)) (nQ (QZ (nu (mO n))) tP)))))) func338 ntmps338 results338,
   Ei (F4 (jY n) n) (gd jT jU (p:=(kB (k7 (pP n)) (kB (k7 (Kq)) lZ)))) func347 ntmps347 results347,
   Ei (F5 (jY n) n) (gd (jQ (pq (fun b a r h=>(mq n) b.1 r h)) (jQ (qp (nu (mO n))) jT)) jU (p:=(kB (k7 (rF)) (kB (k7 (vK n)) (kB (k7 (uy n)) (kB (k7 (Pj n)) (kB (k7 (Me)) (kB (k7 (Gu n)) (kB (k7 (Ow)) (kB (k7 (Xe n)) lZ))))))))) (c:=(nQ (Ay (nE n)) (nQ (as1 (aad n)) tP)))) func348 ntmps348 results348,
   Ei (DV (jY n) n) (gd jT (lC (abc (WZ n)) jU) (p:=(kB (k7 (pP n)) lZ)) (c:=(nQ (Ay (rF)) tP))) func89 ntmps89 results89⟩
def agA:tN gP 44 (lX 0 kJ) jO true jO (lW (kZ Syntax.kv) kJ) jO j1 (k9 (nL n)):=(lP n).1
def aBo:tN gP 86 (lX 0 (lW (lr .i64) kJ)) jO true jO (lW (kZ Syntax.kv) kJ) jO j1 (pY (uI n)):=(lP n).2.1
def awN:tN gP 90 (lX 0 (lW mo (lW mo kJ))) jO true jO (lW (lA j8.row) kJ) jO j1 (ur (qY n)):=(lP n).2.2.1
def aBp:tN gP 87 (lX 0 (lW (lr .i64) kJ)) jO true jO (lW (kZ Syntax.kv) kJ) jO j1 (pY (uJ n)):=(lP n).2.2.2.1
def ayw:tN gP 92 (lX 0 (lW (lr .i64) kJ)) jO true jO (lW (kZ Syntax.kv) kJ) jO j1 (pY (s3 n)):=(lP n).2.2.2.2.1
def aBX:tN gP 156 (lX 0 kJ) jO true jO (lW (kZ Syntax.kv) kJ) jO j1 (k9 (vS n)):=(lP n).2.2.2.2.2.1
def ay3:tN gP 211 (lX 0 kJ) jO true jO (lW (kZ Syntax.kv) kJ) jO j1 (k9 (tX n)):=(lP n).2.2.2.2.2.2.1
def aBq:tN gP 250 (lX 0 kJ) jO true jO (lW (kZ Syntax.kv) kJ) jO j1 (k9 (uK n)):=(lP n).2.2.2.2.2.2.2.1
def ay5:tN gP 282 (lX 0 kJ) jO true jO (lW (kZ Syntax.kv) kJ) jO j1 (k9 (tY n)):=(lP n).2.2.2.2.2.2.2.2.1
def ayx:tN gP 304 (lX 0 kJ) jO true jO (lW (kZ Syntax.kv) kJ) jO j1 (k9 (s4 n)):=(lP n).2.2.2.2.2.2.2.2.2.1
def awO:tN gP 319 (lX 0 (lW (kZ Syntax.kv) kJ)) jO true jO (lW (kZ Syntax.kv) kJ) jO j1 (wW (su n)):=(lP n).2.2.2.2.2.2.2.2.2.2.1
def ay6:tN gP 320 (lX 0 (lX 1 kJ)) kS true kS kJ kS j1 (pF (tZ n)):=(lP n).2.2.2.2.2.2.2.2.2.2.2.1
def avL:tN gP 329 (lX 0 kJ) jO true jO (lW (lA Syntax.row) kJ) jO j1 (vR (qu n)):=(lP n).2.2.2.2.2.2.2.2.2.2.2.2.1
def aqp:tN gP 334 (lX 0 kJ) jO true jO (lW (kZ Syntax.kv) kJ) jO j1 (k9 (pG n)):=(lP n).2.2.2.2.2.2.2.2.2.2.2.2.2.1
def awP:tN gP 338 (lX 0 kJ) jO true jO (lW (kZ Syntax.kv) kJ) jO j1 (k9 (qZ n)):=(lP n).2.2.2.2.2.2.2.2.2.2.2.2.2.2.1
def ayy:tN gP 347 (lX 0 (lX 1 kJ)) kS true kS kJ kS j1 (pF (rI n)):=(lP n).2.2.2.2.2.2.2.2.2.2.2.2.2.2.2.1
def ayz:tN gP 348 (lX 0 (lX 1 kJ)) kS true kS kJ kS j1 (pF (s5 n)):=(lP n).2.2.2.2.2.2.2.2.2.2.2.2.2.2.2.2.1
def avM:tN gP 89 sY jO true jO (lW (kZ Syntax.kv) kJ) jO j1 (tL (rE n)):=(lP n).2.2.2.2.2.2.2.2.2.2.2.2.2.2.2.2.2
open Go.Proofs
@[reducible] def avN:kK Bool:=nh gP f47 n (l1 gP [.tmp 2] mw) (cl:=l6 [(25,nq (lA jR.row) mw (Zc n)),(48,nP (lA kW) (lr .i64) mw (Fq n)),(95,nq (lA kz.row) mw (aes n))])
def aaT:Jx (avN n) (kZ kH.kv) 21:=mB
def Zk:=fu fun n=>(aaT n).1
def aua:∀n:Nat,uj gP 47 (kZ kH.kv) mw (Zk n):=ww fun n=>uU (aaT n) (gd (jQ (lB (at2 n)) (jQ (lw (Qg n)) (jQ (lB (avH n)) jT))) jU) func47 ntmps47 results47
def Pz:ua:=⟨[],[(3,5,8)],(zT (uL j3.kv)::zA::zK::zA::zK::zA::zK::zA::zA::zA::zK::zK::zA::zA::zK::wv (wv (lH (lH (l7 (l7 (l7 (zA::zA::[])))))))),[oT jW.kv,oK,oD,oC [zK,zK,zK,zK,zK,zK,zK,zK],oA jX.row,oA Syntax.row],none,none⟩
def PA:ua:=⟨[],[(3,4,2)],(zT (uL j3.kv)::zA::zK::zA::zK::zA::zK::zA::zA::zA::zK::zK::zK::wv (wv (lH (lH (lH []))))),[oT jW.kv,oK,oD,oC [zK,zK,zK,zK,zK,zK,zK,zK],oA jX.row],none,none⟩
@[reducible] def vU(X:j3->jW->Int->Option (Syntax×Int))(n:Nat):kK (Syntax×Int):=nh gP f57 n (l1 gP [.cell 6 37,.tmp 7] (Qr (kZ Syntax.kv) (lr .i64))) (cl:=l6 [(57,Zv (uL j3.kv) (kZ jW.kv) (lr .i64) (Qr (kZ Syntax.kv) (lr .i64)) X),(104,nq (kZ jW.kv) (Qr (kZ jW.kv) (lA jW.row)) (KE n)),(105,nq (lr .i64) (lr .i64) (qD n)),(106,Zv (uL j3.kv) (lr .i64) (lr .i64) (Qr mo (lr .i64)) (qW n)),(108,nP (uL j3.kv) (lr .i64) mo (zk n)),(109,nP (kZ jW.kv) (lr .i64) mw (aQV n)),(110,nP (uL j3.kv) (kZ kA.kv) (Qr (kZ jX.kv) (lr .i64)) (zm n))]) (cd:=Bp [(107,pR (nP (uL j3.kv) mo (lr .i64) (zW n)))]) (qj:=oz [([0,1,0,1,1,1,1,1,1],Pz),([0,1,0,1,1,1,1,1],PA)]) (uz:=l2 []) (uC:=l2 [])
def ajg(X:j3->jW->Int->Option (Syntax×Int))(n:Nat):so (vU X n) [0,1,1,1,0,1,0,1,1,1,1]=true:=jN
def ajh(X:j3->jW->Int->Option (Syntax×Int))(n:Nat):xR (vU X n) [0,1,1,1,0,1,0,1,1,1,1] 1 7 4 7 1 9 4 9/\Mt (vU X n) [0,1,1,1,0,1,0,1,1,1,1] 7 9=true:=⟨⟨jN,jN,jN,jN⟩,jN⟩
attribute [go_sem] ajg ajh Pz PA
abbrev PB(v0:j3)(v1 v2 v3:Int)(o0:jW)(v5:Int)(v6:kj)(v7:Int)(r4:List jX)(r5:List Syntax)(c4:Nat)(c5:Nat):jS:=⟨(.pp (j3.cells v0)::qA::.int .i64 v1::qA::.ptr 0 0::qA::.ptr 1 0::qA::qA::qA::.ptr 3 0::.int .i64 v2::qA::qA::.int .i64 v3::wu (wu (lK (lK (mm (mm (mm (qA::qA::[])))))))),[.cells (jW.cells o0),.cells [.int .i64 0,.str (sb []),.int .i64 0,.kF true 0 [],.kF true 0 [],.kF true 0 [],.int .i64 0,.int .i64 0],.vZ,.cells [.int .i64 v5,.str (sb v6),.int .i64 v7,.kF true 0 [],.lR 4 c4,.lR 5 c5,.int .i64 0,.int .i64 0],.lR true 2 (mp jX.cells r4),.lR true 8 (mp Syntax.cells r5)],0,[]⟩
abbrev PC:List Kt:=[.qg 3,.cut [1,1,1,1,1,1,1],.at [1,1,1,1,1,1,1]]
abbrev PD:=j3->Int->Int->Int->jW->Int->kj->Int->Tk->(List Syntax)->Option (Syntax×Int)
abbrev agB(X:j3->jW->Int->Option (Syntax×Int))(n:Nat)(K:List Kt)(Z:PD):Prop:=∀v0 v1 v2 v3 o0 v5 v6 v7 r4 r5 c4 c5,c4=r4.length->c5=r5.length->run (vU X n) K (PB v0 v1 v2 v3 o0 v5 v6 v7 r4 r5 c4 c5)=Z v0 v1 v2 v3 o0 v5 v6 v7 r4 r5
abbrev PE(v0:j3)(v1 v2 v3:Int)(o0:jW)(v5:Int)(v6:kj)(v7:Int)(r4:List jX)(c4:Nat):jS:=⟨(.pp (j3.cells v0)::qA::.int .i64 v1::qA::.ptr 0 0::qA::.ptr 1 0::qA::qA::qA::.ptr 3 0::.int .i64 v2::.int .i64 v3::wu (wu (lK (lK (lK []))))),[.cells (jW.cells o0),.cells [.int .i64 0,.str (sb []),.int .i64 0,.kF true 0 [],.kF true 0 [],.kF true 0 [],.int .i64 0,.int .i64 0],.vZ,.cells [.int .i64 v5,.str (sb v6),.int .i64 v7,.kF true 0 [],.lR 4 c4,.kF true 0 [],.int .i64 0,.int .i64 0],.lR true 2 (mp jX.cells r4)],0,[]⟩
abbrev PF:=j3->Int->Int->Int->jW->Int->kj->Int->Tk->Option (Syntax×Int)
abbrev agC(X:j3->jW->Int->Option (Syntax×Int))(n:Nat)(K:List Kt)(Z:PF):Prop:=∀v0 v1 v2 v3 o0 v5 v6 v7 r4 c4,c4=r4.length->run (vU X n) K (PE v0 v1 v2 v3 o0 v5 v6 v7 r4 c4)=Z v0 v1 v2 v3 o0 v5 v6 v7 r4
attribute [go_sem] PB PC PE
def tu(X:j3->jW->Int->Option (Syntax×Int))(n:Nat):LB (agB X n) [0,1,0,1,1,1,1,1,1] PC:=mB
def o9(X:j3->jW->Int->Option (Syntax×Int))(n:Nat):Nat->PD:=ui ((tu X n).1)
def yM(X:j3->jW->Int->Option (Syntax×Int)){n:Nat}:o9 X n (m+1)=(tu X n).1 (o9 X n m):=rfl
@[go_sem]def aaU(X:j3->jW->Int->Option (Syntax×Int))(n:Nat)(m:Nat):=vi (tu X n) (o9 X n) m
def uP(X:j3->jW->Int->Option (Syntax×Int))(n:Nat):LB (agC X n) [0,1,0,1,1,1,1,1] [.qg 1,.cut [1,1,1,1,1,1],.at [1,1,1,1,1,1]]:=mB
def pQ(X:j3->jW->Int->Option (Syntax×Int))(n:Nat):Nat->PF:=ui ((uP X n).1)
def DW(X:j3->jW->Int->Option (Syntax×Int)){n:Nat}:pQ X n (m+1)=(uP X n).1 (pQ X n m):=rfl
@[go_sem]def aaV(X:j3->jW->Int->Option (Syntax×Int))(n:Nat)(m:Nat):=vi (uP X n) (pQ X n) m
def mL(X:j3->jW->Int->Option (Syntax×Int))(n:Nat):SC3 (vU X n) (uL j3.kv) (kZ jW.kv) (lr .i64) 189:=mB
def kO:Nat->j3->jW->Int->Option (Syntax×Int)
 |0,_,_,_=>none
 |n+1,a0,a1,a2=>(mL (kO n) n).1 a0 a1 a2
def PG:∀n:Nat,auZ gP 57 (uL j3.kv) (kZ jW.kv) (lr .i64) (Qr (kZ Syntax.kv) (lr .i64)) (kO n)
 |0=>fun _ _ _ _ h=>(by cases h)
 |n+1=>by
  have agD:=PG n;exact aDK (mL (kO n) n) (gd (jQ (Qs (agD)) (jQ (lB (al2 n)) (jQ (lB (apd n)) (jQ (Qs (XZ n)) (jQ (lw (Nv n)) (jQ (lw (atQ n)) (jQ (lw (aen n)) jT))))))) (lC (qk (X6 n)) jU)) func57 ntmps57 results57
open Go.Proofs
@[reducible] def aoo:kK Bool:=nh gP f15 n (l1 gP [.tmp 2] mw) (cl:=l6 [(47,nq (kZ kH.kv) mw (Zk n)),(48,nP (lA kW) (lr .i64) mw (Fq n)),(49,nq (lA jW.row) mw (LZ n)),(50,aHx (kZ jW.kv) (lr .i64) (lr .i64) (lr .i64) (lr .i64) (lr .i64) (HG n))])
def Ox:Jx (aoo n) (kZ ky.kv) 34:=mB
def KK:=fu fun n=>(Ox n).1
def ams:∀n:Nat,uj gP 15 (kZ ky.kv) mw (KK n):=ww fun n=>uU (Ox n) (gd (jQ (lB (aua n)) (jQ (lw (Qg n)) (jQ (lB (an5 n)) (jQ (aEy (ais n)) jT)))) jU) func15 ntmps15 results15
@[reducible] def aji:kK (Syntax×Int):=nh gP f17 n (l1 gP [.cell 8 37,.tmp 9] (Qr (kZ Syntax.kv) (lr .i64))) (cl:=l6 [(57,Zv (uL j3.kv) (kZ jW.kv) (lr .i64) (Qr (kZ Syntax.kv) (lr .i64)) (kO n))]) (cd:=Bp [(55,pR (nq (lA jR.row) (lA kW) (Ak n))),(56,pR (nq (kZ jW.kv) (lA kW) (aQW n)))]) (cut:=Mh [([1,1],[3])]) (uz:=l2 []) (uC:=l2 [])
@[go_sem]def aub:so (aji n) [0,1]=true:=jN
def Xu:SC4 (aji n) (kZ kH.kv) (lA kW) (lA kW) (kZ jW.kv) 26:=mB
def Oy:=fu fun n=>(Xu n).1
def afO:∀n:Nat,aDJ gP 17 (kZ kH.kv) (lA kW) (lA kW) (kZ jW.kv) (Qr (kZ Syntax.kv) (lr .i64)) (Oy n):=aMY fun n=>aKQ (Xu n) (gd (jQ (Qs (PG n)) jT) (lC (nu (Jc n)) (lC (nu (atS n)) jU))) func17 ntmps17 results17
@[reducible] def aln:kK TV:=nh gP f13 n (aKE (VV [(41,OO [.arg 0 [],.arg 1 [],.arg 2 []] kD (lX 0 (lX 1 (lX 2 kJ))) kD kJ (fun(b:Tl)(a:Unit)=>(Io n) b.1.1 b.2.1.1 b.2.2.1.1))]) (VV [(41,OO [.arg 0 [],.arg 1 [],.arg 2 []] kD wY kD kJ (fun(b:Tl)(a:T8)=>(Iv n) a.1 b.1.1 b.2.1.1 b.2.2.1.1))]) gP [.cell 4 37,.cell 5 3,.cell 6 28] (ty3 (kZ Syntax.kv) (lr .i64) (lr .i64))) (rk:=aEM (VV [(41,OO [.arg 0 [],.arg 1 [],.arg 2 []] kD (lX 0 (lX 1 (lX 2 kJ))) kD kJ (fun(b:Tl)(a:Unit)=>(Io n) b.1.1 b.2.1.1 b.2.2.1.1))]) (VV [(41,OO [.arg 0 [],.arg 1 [],.arg 2 []] kD wY kD kJ (fun(b:Tl)(a:T8)=>(Iv n) a.1 b.1.1 b.2.1.1 b.2.2.1.1))]) gP [.cell 4 37,.cell 5 3,.cell 6 28] (ty3 (kZ Syntax.kv) (lr .i64) (lr .i64))) (cp:=Az [(43,Xk (acC n)),(44,nA (nL n)),(45,NP (RV n))]) (wx:=l2 [43,44,45])
def alo:{B:kj->(List jR)->Option TV //∀(a0:kj)(a1:(List jR)),run (aln n) [.at []] (ini [mo.enc a0,(lA jR.row).enc a1] 23)=B a0 a1}:=mB2
def aqq:=fu fun n=>(alo n).1
def auc:∀(n:Nat)(a0:kj)(a1:(List jR))(r:TV),aqq n a0 a1=some r->I5 gP 13 [mo.enc a0,(lA jR.row).enc a1] (fun v=>v=(ty3 (kZ Syntax.kv) (lr .i64) (lr .i64)).enc r)
 |0,_,_,_,h=>by cases h
 |n+1,a0,a1,r,h=>by
  exact aAP (M:=aln n) (t:=(ty3 (kZ Syntax.kv) (lr .i64) (lr .i64))) (cr:=(VV [(41,OO [.arg 0 [],.arg 1 [],.arg 2 []] kD (lX 0 (lX 1 (lX 2 kJ))) kD kJ (fun(b:Tl)(a:Unit)=>(Io n) b.1.1 b.2.1.1 b.2.2.1.1))])) (cp:=(VV [(41,OO [.arg 0 [],.arg 1 [],.arg 2 []] kD wY kD kJ (fun(b:Tl)(a:T8)=>(Iv n) a.1 b.1.1 b.2.1.1 b.2.2.1.1))])) ⟨jT,jU,pd _,pI _,rK,rL,(kB (k7 (ake n)) (kB (k7 (agA n)) (kB (k7 (acn n)) lZ))),rX⟩ (Mv (abj aoW (fun _ _ _ _=>rfl) (jN) (fun b a r h=>(ajW n) b.1.1 b.2.1.1 b.2.2.1.1 r h)) QY) (Mv (abj aoX (fun _ _ _ _=>rfl) (jN) (fun b a r h=>(aj1 n) a.1 b.1.1 b.2.1.1 b.2.2.1.1 r h)) QY) func13 rfl rfl ⟨mo.nb 0 _,(lA jR.row).nb 0 _,trivial⟩ ntmps13 results13 rfl rfl (((alo n).2 a0 a1).trans h)
end Go.Abs
end
