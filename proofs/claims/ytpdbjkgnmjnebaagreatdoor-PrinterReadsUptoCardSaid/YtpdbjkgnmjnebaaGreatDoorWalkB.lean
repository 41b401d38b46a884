/- A part of the proof: what the functions compute. -/
import Derived.Test.YtpdbjkgnmjnebaaGreatDoorDataA
import Derived.Test.YtpdbjkgnmjnebaaGreatDoorExtA
import Derived.Test.YtpdbjkgnmjnebaaGreatDoorWalkA
import Derived.Test.YtpdbjkgnmjnebaaGreatDoorCoreD
set_option linter.all false
open Go.Proofs.Tryz renaming prog→gf
open Nat renaming reduceLeDiff→gh,reduceEqDiff→gi,reduceAdd→gk,reduceSub→gp,reduceBEq→gq,reduceMul→gr,reduceLT→gv
open Int renaming reduceToNat→gj,reduceBEq→gu,reduceLE→gw,reduceLT→gx,reduceEq→gy
open Option renaming getD_some→gz
open Subtype renaming mk→gA
open Go.Abs.AV renaming any→qA
noncomputable section
open Go.Proofs.Tryz
namespace Go.Abs
variable {m:Nat}{J:jS}
variable (n:Nat)
open Go.Proofs
attribute [go_sem] f171 f141 f274 f166 f225 f220 f77 f194 f195 f131 f297 f285 f276 f41 f244 f84 f88 f85 f207 f208 f150 f246 f210 f157 f54 f21 f63 f10 f254 f22 f256 f257 f100 f306 f98 f108 f199 f164 f172 f298 f316 f263 f242 f243 f201 f202 f252 f283 f286
set_option maxRecDepth 100000
set_option maxHeartbeats 4000000
@[reducible] def Wu:kK Bool:=nh gf f171 n (l1 gf [.tmp 4] mw) (cl:=l6 [(224,nP (lA kW) mo (lr .i64) (Bc n))])
def AR:Ll (Wu n) (lA kW) mo 9:=mB
def uX:=fu fun n=>(AR n).1
def Gi:∀n:Nat,uu gf 171 (lA kW) mo mw (uX n):=yu fun n=>we (AR n) (gd (jQ (lw (ZM n)) jT) jU) func171 ntmps171 results171
@[go_sem]def anP:ua:=⟨[],[],(zK::zA::zA::zK::zA::zA::zA::zK::zK::lH (l7 (l7 (l7 (zA::zA::[]))))),[],none,none⟩
@[reducible] def aqk:kK Bool:=nh gf f141 n (l1 gf [.tmp 2] mw) (cl:=l6 [(196,nq (lr .u8) mw (Yp n))]) (qj:=oz [([0,1,0,1,1],anP)])
@[go_sem]abbrev anQ(v0:kj)(v1:Bool)(v2 v3:Int):jS:=⟨(.str (sb v0)::qA::qA::.bool v1::qA::qA::qA::.int .i64 v2::.int .i64 v3::lK (mm (mm (mm (qA::qA::[]))))),[],0,[]⟩
abbrev anR:=kj->Bool->Int->Int->Option Bool
abbrev ax5(K:List Kt)(Z:anR):Prop:=∀v0 v1 v2 v3,run (aqk n) K (anQ v0 v1 v2 v3)=Z v0 v1 v2 v3
def M8:LB (ax5 n) [0,1,0,1,1] [.qg 0,.cut [1,1,1],.at [1,1,1]]:=mB
def M9:Nat->anR:=ui ((M8 n).1)
def ah1{n:Nat}:M9 n (m+1)=(M8 n).1 (M9 n m):=rfl
@[go_sem]def aq4(m:Nat):=vi (M8 n) (M9 n) m
def ah2:Jx (aqk n) mo 39:=mB
def VB:=fu fun n=>(ah2 n).1
def adT:∀n:Nat,uj gf 141 mo mw (VB n):=ww fun n=>uU (ah2 n) (gd (jQ (lB (atv n)) jT) jU) func141 ntmps141 results141
@[go_sem]def Na:ua:=⟨[],[],(zK::zT (uL cS)::zA::zK::zK::lH (lH (lH (zA::zA::zA::[])))),[oL [zA,zK,zA,zA,zA,zA,zA,zA,zA],oC [zK],oK],none,none⟩
@[go_sem]abbrev Bf(F:kj->Ta->Option (TD×Unit))(b:(Unit×(Unit×(Ta×Unit))))(a:(kj×Unit)):=F a.1 b.2.2.1
@[go_sem]def aRk(F:kj->Ta->Option (TD×Unit)):=GR [.arg 0 [],.vA 0 1 [],.vA 1 0 []] lc (aQP 0 (lW (uL cS) kJ)) mG kJ (Bf F)
@[reducible] def aRl:kK (TD×Unit):=nh gf f274 n (w9 gf [] [] [0,1,2] 3 mG kJ) (qj:=oz [([0,1,0,1],Na)]) (cy:=asV [(0,aAD [.vA 0 1 [],.vA 1 0 []] lc (lW mo kJ) mG (lW mw kJ) (fun(b:(Unit×(Unit×(Ta×Unit))))(a:(kj×Unit))=>(Gc n) a.1 b.2.2.1))])
attribute [go_sem] zy
@[go_sem]abbrev Nb(v0:kj)(v1 v2 j0:Int)(r2:List (kj×Bool)):jS:=⟨(.map 0::.pp [.str (sb v0)]::qA::.int .i64 v1::.int .i64 v2::lK (lK (lK (qA::qA::qA::[])))),[.loop nY [qA,.ptr 1 0,qA,qA,qA,qA,qA,qA,qA] (stJ nY j0) j0,.cells [.map 2],.map (mp GI r2)],3,[]⟩
abbrev Nc:=kj->Int->Int->Int->Ta->Option (TD×Unit)
abbrev adU(K:List Kt)(Z:Nc):Prop:=∀v0 v1 v2 j0 r2,run (aRl n) K (Nb v0 v1 v2 j0 r2)=Z v0 v1 v2 j0 r2
def Eu:LB (adU n) [0,1,0,1] [.qg 0,.cut [1,1],.at [1,1]]:=mB
def Ew:Nat->Nc:=ui ((Eu n).1)
def avm{n:Nat}:Ew n (m+1)=(Eu n).1 (Ew n m):=rfl
@[go_sem]def XP(m:Nat):=vi (Eu n) (Ew n) m
def aRm:SX (aRl n) (aQP 0 (lW (uL cS) kJ)) lc 56 Bf:=mC
def Ux:=fu fun n=>(aRm n).1
def adV:∀n:Nat,zt gf 274 (aQP 0 (lW (uL cS) kJ)) lc mG kJ (Bf (Ux n)):=VX fun n=>GC (aRm n) (gd jT jU (y:=(Mu (fun _ _ _ _ _ h=>anc (fun b a r h=>(PZ n) a.1 b.2.2.1 r h) h) QX))) func274 ntmps274 results274
@[go_sem]def Rj:ua:=⟨[],[],(zA::zK::zA::zA::zK::zA::zA::zA::zK::lH (l7 (zA::zA::zT (lA jW.row)::zK::zK::lH []))),[oC [zK],oC [zK],oL [zA,zA,zA,zK,zK,zA,zA,zA,zA,zA,zA,zA,zA,zA,zA,zA,zA,zA,zA,zA,zA,zA,zA,zA,zA,zA,zA,zA,zA,zA],oC [zK],oC [zK]],none,none⟩
def tR:=(lW (kZ jW.kv) (lW (lr .i64) (lX 0 (lW (uL (cA kn.kv 5 13)) (lX 1 kJ)))))
def BI:=(tz (Bq (aQP 2 kJ)) (tz (Bq (alF 166 (vlP 0 (vlT (uL (cA kn.kv 5 13)) (vlP 1 vlN))) kJ)) (tz (asW nS (Cq 3 (lX 3 (lX 4 (Cq 25 kJ))))) (tz (Bq (aQO (cI .i64) 1 kJ)) (tz (Bq (aQO cB 1 kJ)) Bn)))))
def BJ:=(tz (Bq (aQP 2 kJ)) (tz (Bq (alF 166 (vlP 0 (vlT (uL (cA kn.kv 5 13)) (vlP 1 vlN))) kJ)) (tz (ogL nS (Cq 3 (lX 3 (lX 4 (Cq 25 kJ))))) (tz (Bq (aQO (cI .i64) 1 kJ)) (tz (Bq (aQO cB 1 kJ)) Bn)))))
attribute [go_sem] tR BI BJ
@[go_sem]abbrev CJ(F:jW->Int->(yB kn 13)->(yB kn 13)->Int->Bool->Option ((Unit×((((yB kn 13)×Unit)×Unit)×Tg))×(Bool×Unit)))(b:(Unit×((((yB kn 13)×Unit)×Unit)×TS)))(a:(jW×(Int×((yB kn 13)×Unit)))):=F a.1 a.2.1 a.2.2.1 b.2.1.1.1 b.2.2.2.1.1 b.2.2.2.2.1.1
@[go_sem]def Jd(F:jW->Int->(yB kn 13)->(yB kn 13)->Int->Bool->Option ((Unit×((((yB kn 13)×Unit)×Unit)×Tg))×(Bool×Unit))):=GR [.arg 2 [],.arg 4 [],.vA 0 0 [],.vA 2 3 [],.vA 2 4 []] BI tR BJ (lW mw kJ) (CJ F)
@[reducible] def Uy(X:jW->Int->(yB kn 13)->(yB kn 13)->Int->Bool->Option ((Unit×((((yB kn 13)×Unit)×Unit)×Tg))×(Bool×Unit)))(n:Nat):kK ((Unit×((((yB kn 13)×Unit)×Unit)×Tg))×(Bool×Unit)):=nh gf f166 n (w9 gf [.tmp 7] [] [0,1,2,3,4] 5 BJ (lW mw kJ)) (cl:=l6 [(166,Jd X)]) (qj:=oz [([0,1,0,1,1,1,1],Rj)]) (cy:=asV [(2,aAD [.vA 0 3 [],.vA 0 4 []] lu n7 nf (lW mw kJ) (fun(b:TS)(a:(Int×(jW×Unit)))=>(xT n) a.1 a.2.1 b.2.1.1 b.2.2.1.1))])
attribute [go_sem] xS
@[go_sem]abbrev Rk(v0 v1:Int)(v2:List jW)(v3 v4:Int)(v5:yB kn 13)(j2 v7:Int)(v8:Bool):jS:=⟨(qA::.int .i64 v0::qA::qA::.ptr 1 0::qA::qA::qA::.int .i64 v1::lK (mm (qA::qA::.kF false 5 (mp jW.cells v2)::.int .i64 v3::.int .i64 v4::lK []))),[.cells [.map 2],.cells [.func (.func 166) [] [.ptr 0 0,.pp (s7 kn.cells 13 v5),.ptr 1 0]],.loop nS [qA,qA,qA,.ptr 3 0,.ptr 4 0,qA,qA,qA,qA,qA,qA,qA,qA,qA,qA,qA,qA,qA,qA,qA,qA,qA,qA,qA,qA,qA,qA,qA,qA,qA] (stJ nS j2) j2,.cells [.int .i64 v7],.cells [.bool v8]],5,[]⟩
abbrev Rl:=Int->Int->(List jW)->Int->Int->(yB kn 13)->Int->Int->Bool->Option ((Unit×((((yB kn 13)×Unit)×Unit)×Tg))×(Bool×Unit))
abbrev ah3(X:jW->Int->(yB kn 13)->(yB kn 13)->Int->Bool->Option ((Unit×((((yB kn 13)×Unit)×Unit)×Tg))×(Bool×Unit)))(n:Nat)(K:List Kt)(Z:Rl):Prop:=∀v0 v1 v2 v3 v4 v5 j2 v7 v8,run (Uy X n) K (Rk v0 v1 v2 v3 v4 v5 j2 v7 v8)=Z v0 v1 v2 v3 v4 v5 j2 v7 v8
def yg(X:jW->Int->(yB kn 13)->(yB kn 13)->Int->Bool->Option ((Unit×((((yB kn 13)×Unit)×Unit)×Tg))×(Bool×Unit)))(n:Nat):LB (ah3 X n) [0,1,0,1,1,1,1] [.qg 0,.cut [1,1,1,1,1],.at [1,1,1,1,1]]:=mB
def yj(X:jW->Int->(yB kn 13)->(yB kn 13)->Int->Bool->Option ((Unit×((((yB kn 13)×Unit)×Unit)×Tg))×(Bool×Unit)))(n:Nat):Nat->Rl:=ui ((yg X n).1)
def Nd(X:jW->Int->(yB kn 13)->(yB kn 13)->Int->Bool->Option ((Unit×((((yB kn 13)×Unit)×Unit)×Tg))×(Bool×Unit))){n:Nat}:yj X n (m+1)=(yg X n).1 (yj X n m):=rfl
@[go_sem]def abM(X:jW->Int->(yB kn 13)->(yB kn 13)->Int->Bool->Option ((Unit×((((yB kn 13)×Unit)×Unit)×Tg))×(Bool×Unit)))(n:Nat)(m:Nat):=vi (yg X n) (yj X n) m
def CK(X:jW->Int->(yB kn 13)->(yB kn 13)->Int->Bool->Option ((Unit×((((yB kn 13)×Unit)×Unit)×Tg))×(Bool×Unit)))(n:Nat):SX (Uy X n) tR BI 50 CJ:=mC (by apply _root_.Subtype.mk;(repeat (first|with_reducible refine _root_.Prod.forall.2 ?_|intro));simp (config:={maxSteps:=100000000}) only[go_sem,_root_.Nat.reduceAdd,_root_.Nat.reduceSub,_root_.Nat.reduceLeDiff,_root_.Nat.reduceEqDiff,_root_.Nat.reduceBEq,_root_.Nat.reduceMul,_root_.Nat.reduceLT,_root_.Int.reduceLE,_root_.Int.reduceLT,_root_.Int.reduceToNat,_root_.Int.reduceBEq,_root_.Int.reduceEq,_root_.Option.getD_some,mixed, *];exact rfl)
def rU:Nat->jW->Int->(yB kn 13)->(yB kn 13)->Int->Bool->Option ((Unit×((((yB kn 13)×Unit)×Unit)×Tg))×(Bool×Unit))
 |0,_,_,_,_,_,_=>none
 |n+1,a0,a1,a2,o0,o1,o2=>(CK (rU n) n).1 a0 a1 a2 o0 o1 o2
def Rm:∀n:Nat,zt gf 166 tR BI BJ (lW mw kJ) (CJ (rU n))
 |0=>fun _ _ _ h=>(by cases h)
 |n+1=>by
  have ah4:=Rm n;exact GC (CK (rU n) n) (gd (jQ (mV (ah4)) jT) jU (y:=(Mu (fun _ _ _ _ _ h=>anc (fun b a r h=>(Vc n) a.1 a.2.1 b.2.1.1 b.2.2.1.1 r h) h) QX))) func166 ntmps166 results166
@[go_sem]def tS:ua:=⟨[],[],(zT (lA kp.row)::zT (tyF 173)::l7 (zA::zK::zK::l7 (l7 (zA::zA::[])))),[],none,none⟩
@[reducible] def ug:kK Int:=nh gf f225 n (l1 gf [.tmp 4] (lr .i64)) (cl:=l6 [(173,nq (kZ kp.kv) mw (Bd n))]) (qj:=oz [([0,1,0,1],tS)])
@[go_sem]abbrev tT(v0:List kp)(v1 v2:Int):jS:=⟨(.kF false 2 (mp kp.cells v0)::.func (.func 173) [] []::mm (qA::.int .i64 v1::.int .i64 v2::mm (mm (qA::qA::[])))),[],0,[]⟩
abbrev tU:=(List kp)->Int->Int->Option Int
abbrev AS(K:List Kt)(Z:tU):Prop:=∀v0 v1 v2,run (ug n) K (tT v0 v1 v2)=Z v0 v1 v2
def nv:LB (AS n) [0,1,0,1] [.qg 0,.cut [1,1],.at [1,1]]:=mB
def ny:Nat->tU:=ui ((nv n).1)
def tB{n:Nat}:ny n (m+1)=(nv n).1 (ny n m):=rfl
@[go_sem]def zh(m:Nat):=vi (nv n) (ny n) m
def qz:Ll (ug n) (lA kp.row) (tyF 173) 19:=mB
def qS:=fu fun n=>(qz n).1
def AT:∀n:Nat,uu gf 225 (lA kp.row) (tyF 173) (lr .i64) (qS n):=yu fun n=>we (qz n) (gd (jQ (lB (ZP n)) jT) jU) func225 ntmps225 results225
@[reducible] def ajZ:kK kj:=nh gf f220 n (l1 gf [.tmp 4] mo) (cl:=l6 [(260,nP (lA kW) mo mo (strings_Join n)),(261,Ah [] sM (asT (lA kW) IJ) (uf (aQL true kW) sM) (rsA 0 (fun(b:Tf)=>b.1.length) F8) (fun(b:Unit) a=>(OR n) a.1))])
def Je:Ll (ajZ n) (lA kW) mo 11:=mB
def yH:=fu fun n=>(Je n).1
def Rn:∀n:Nat,uu gf 220 (lA kW) mo mo (yH n):=yu fun n=>we (Je n) (gd (jQ (lw (St n)) (jQ (pq (fun b a r h=>(ZS n) a.1 r h)) jT)) jU) func220 ntmps220 results220
open Go.Proofs
@[go_sem]def YF:ua:=⟨[],[],(zA::zK::zA::zA::zK::zA::zA::zA::zK::lH (l7 (zA::zA::zT (lA jW.row)::zK::zK::lH []))),[oC [zK],oC [zK],oL [zA,zA,zA,zK,zK,zA,zA,zA,zA,zA,zA,zA,zA,zA,zA,zA,zA,zA,zA,zA,zA,zA,zA,zA,zA,zA,zA,zA,zA,zA,zA],oC [zK],oC [zK],oK,oA kW],none,none⟩
@[go_sem]def Gj:=(tz (Bq (aQP 2 kJ)) (tz (Bq (alF 166 (vlP 0 (vlT (uL (cA kn.kv 5 13)) (vlP 1 vlN))) kJ)) (tz (asW nB (Cq 3 (lX 3 (lX 4 (Cq 26 kJ))))) (tz (Bq (aQP 5 kJ)) (tz (Bq (alA 6 kJ)) (tz ogM (tz (ogA true kW) Bn)))))))
@[go_sem]def Gk:=(tz (Bq (aQP 2 kJ)) (tz (Bq (alF 166 (vlP 0 (vlT (uL (cA kn.kv 5 13)) (vlP 1 vlN))) kJ)) (tz (ogL nB (Cq 3 (lX 3 (lX 4 (Cq 26 kJ))))) (tz (Bq (aQP 5 kJ)) (tz (Bq (alA 6 kJ)) (tz ogM (tz (ogA true kW) Bn)))))))
@[go_sem]abbrev It(F:jW->Int->(yB kn 13)->(yB kn 13)->Ta->(List kj)->Option ((Unit×((((yB kn 13)×Unit)×Unit)×Ti))×(Bool×Unit)))(b:(Unit×((((yB kn 13)×Unit)×Unit)×T11)))(a:(jW×(Int×((yB kn 13)×Unit)))):=F a.1 a.2.1 a.2.2.1 b.2.1.1.1 b.2.2.2.2.2.1 b.2.2.2.2.2.2.1
@[go_sem]def P7(F:jW->Int->(yB kn 13)->(yB kn 13)->Ta->(List kj)->Option ((Unit×((((yB kn 13)×Unit)×Unit)×Ti))×(Bool×Unit))):=GR [.arg 2 [],.arg 4 [],.vA 0 0 [],.vA 2 3 [],.vA 2 4 [],.vA 3 0 [],.vA 4 0 []] Gj tR Gk (lW mw kJ) (It F)
@[reducible] def abN(X:jW->Int->(yB kn 13)->(yB kn 13)->Ta->(List kj)->Option ((Unit×((((yB kn 13)×Unit)×Unit)×Ti))×(Bool×Unit)))(n:Nat):kK ((Unit×((((yB kn 13)×Unit)×Unit)×Ti))×(Bool×Unit)):=nh gf f166 n (w9 gf [.tmp 7] [] [0,1,2,3,4,5,6] 7 Gk (lW mw kJ)) (cl:=l6 [(166,P7 X)]) (qj:=oz [([0,1,0,1,1,1,1],YF)]) (cy:=asV [(2,aAD [.vA 0 3 [],.vA 0 4 [],.vA 1 0 [],.vA 2 0 []] lg n7 mJ (lW mw kJ) (fun(b:T11)(a:(Int×(jW×Unit)))=>(wE n) a.1 a.2.1 b.2.2.2.1 b.2.2.2.2.1))])
attribute [go_sem] wD
@[go_sem]abbrev YG(v0 v1:Int)(v2:List jW)(v3 v4:Int)(v5:yB kn 13)(j2:Int)(r5:List (kj×Bool))(r6:List kj)(c6:Nat):jS:=⟨(qA::.int .i64 v0::qA::qA::.ptr 1 0::qA::qA::qA::.int .i64 v1::lK (mm (qA::qA::.kF false 5 (mp jW.cells v2)::.int .i64 v3::.int .i64 v4::lK []))),[.cells [.map 2],.cells [.func (.func 166) [] [.ptr 0 0,.pp (s7 kn.cells 13 v5),.ptr 1 0]],.loop nB [qA,qA,qA,.ptr 3 0,.ptr 4 0,qA,qA,qA,qA,qA,qA,qA,qA,qA,qA,qA,qA,qA,qA,qA,qA,qA,qA,qA,qA,qA,qA,qA,qA,qA,qA] (stJ nB j2) j2,.cells [.map 5],.cells [.lR 6 c6],.map (mp GI r5),.lR true 1 (mp kX r6)],7,[]⟩
abbrev YH:=Int->Int->(List jW)->Int->Int->(yB kn 13)->Int->Ta->(List kj)->Option ((Unit×((((yB kn 13)×Unit)×Unit)×Ti))×(Bool×Unit))
abbrev anS(X:jW->Int->(yB kn 13)->(yB kn 13)->Ta->(List kj)->Option ((Unit×((((yB kn 13)×Unit)×Unit)×Ti))×(Bool×Unit)))(n:Nat)(K:List Kt)(Z:YH):Prop:=∀v0 v1 v2 v3 v4 v5 j2 r5 r6 c6,c6=r6.length->run (abN X n) K (YG v0 v1 v2 v3 v4 v5 j2 r5 r6 c6)=Z v0 v1 v2 v3 v4 v5 j2 r5 r6
def BK(X:jW->Int->(yB kn 13)->(yB kn 13)->Ta->(List kj)->Option ((Unit×((((yB kn 13)×Unit)×Unit)×Ti))×(Bool×Unit)))(n:Nat):LB (anS X n) [0,1,0,1,1,1,1] [.qg 0,.cut [1,1,1,1,1],.at [1,1,1,1,1]]:=mB
def uH(X:jW->Int->(yB kn 13)->(yB kn 13)->Ta->(List kj)->Option ((Unit×((((yB kn 13)×Unit)×Unit)×Ti))×(Bool×Unit)))(n:Nat):Nat->YH:=ui ((BK X n).1)
def Uz(X:jW->Int->(yB kn 13)->(yB kn 13)->Ta->(List kj)->Option ((Unit×((((yB kn 13)×Unit)×Unit)×Ti))×(Bool×Unit))){n:Nat}:uH X n (m+1)=(BK X n).1 (uH X n m):=rfl
@[go_sem]def ah5(X:jW->Int->(yB kn 13)->(yB kn 13)->Ta->(List kj)->Option ((Unit×((((yB kn 13)×Unit)×Unit)×Ti))×(Bool×Unit)))(n:Nat)(m:Nat):=vi (BK X n) (uH X n) m
def P8(X:jW->Int->(yB kn 13)->(yB kn 13)->Ta->(List kj)->Option ((Unit×((((yB kn 13)×Unit)×Unit)×Ti))×(Bool×Unit)))(n:Nat):SX (abN X n) tR Gj 50 It:=mC (by apply _root_.Subtype.mk;(repeat (first|with_reducible refine _root_.Prod.forall.2 ?_|intro));simp (config:={maxSteps:=100000000}) only[go_sem,_root_.Nat.reduceAdd,_root_.Nat.reduceSub,_root_.Nat.reduceLeDiff,_root_.Nat.reduceEqDiff,_root_.Nat.reduceBEq,_root_.Nat.reduceMul,_root_.Nat.reduceLT,_root_.Int.reduceLE,_root_.Int.reduceLT,_root_.Int.reduceToNat,_root_.Int.reduceBEq,_root_.Int.reduceEq,_root_.Option.getD_some,mixed, *];exact rfl)
def sQ:Nat->jW->Int->(yB kn 13)->(yB kn 13)->Ta->(List kj)->Option ((Unit×((((yB kn 13)×Unit)×Unit)×Ti))×(Bool×Unit))
 |0,_,_,_,_,_,_=>none
 |n+1,a0,a1,a2,o0,o1,o2=>(P8 (sQ n) n).1 a0 a1 a2 o0 o1 o2
def YI:∀n:Nat,zt gf 166 tR Gj Gk (lW mw kJ) (It (sQ n))
 |0=>fun _ _ _ h=>(by cases h)
 |n+1=>by
  have anT:=YI n;exact GC (P8 (sQ n) n) (gd (jQ (mV (anT)) jT) jU (y:=(Mu (fun _ _ _ _ _ h=>anc (fun b a r h=>(Q7 n) a.1 a.2.1 b.2.2.2.1 b.2.2.2.2.1 r h) h) QX))) func166 ntmps166 results166
@[go_sem]abbrev zz(F:jR->Int->Tb->Tb->Ta->Option TZ)(b:T7)(a:(jR×Unit)):=F a.1 b.1.1 b.2.1 b.2.2.1 b.2.2.2.1
@[go_sem]def Nf(F:jR->Int->Tb->Tb->Ta->Option TZ):=xu false [.arg 0 [],.vA 0 0 [],.vA 0 1 [],.vA 0 2 []] lM (lX 0 (lW (kZ jR.kv) kJ)) lM (aQP 2 (lW mo (lW (lA kW) kJ))) lM (aQP 1 (lW mo (lW (lA kW) kJ))) (zz F)
@[reducible] def Ng:kK TZ:=nh gf f77 n (anh gf [.tmp 4,.tmp 5,.tmp 6] [] [0,1,2,3] 4 lM (aQP 2 (lW mo (lW (lA kW) kJ))) [] lM (aQP 1 (lW mo (lW (lA kW) kJ)))) (cl:=l6 [(78,nq (kZ jR.kv) mw (Fp n))]) (uz:=l2 []) (uC:=l2 [])
@[go_sem]def adW:anm (Ng n) [0,0,1,0,1] [0,1,1]:=⟨jN,jN⟩
def Nh:SX (Ng n) (lX 0 (lW (kZ jR.kv) kJ)) lM 31 zz:=mC
def Ro:=fu fun n=>(Nh n).1
def abO:∀n:Nat,tN gf 77 (lX 0 (lW (kZ jR.kv) kJ)) lM false lM (aQP 2 (lW mo (lW (lA kW) kJ))) lM (aQP 1 (lW mo (lW (lA kW) kJ))) (zz (Ro n)):=adx fun n=>aOS (Nh n) (gd (jQ (lB (C7 n)) jT) jU) func77 ntmps77 results77
@[reducible] def atH:kK Bool:=nh gf f194 n (l1 gf [.tmp 2] mw) (cl:=l6 [(193,nq (lr .u8) (lr .i64) (Lr n))])
def ah6:Jx (atH n) (lr .u8) 15:=mB
def Vi:=fu fun n=>(ah6 n).1
def SE:∀n:Nat,uj gf 194 (lr .u8) mw (Vi n):=ww fun n=>uU (ah6 n) (gd (jQ (lB (Hh n)) jT) jU) func194 ntmps194 results194
@[reducible] def avn:kK (List kj):=nh gf f195 n (l1 gf [.tmp 0] (lA kW)) (cl:=l6 [(240,nq mo (lA kW) (ahK n))])
def akO:SC0 (avn n) 2:=mB
def ah7:=fu fun n=>(akO n).1
def ah8:∀n:Nat,aGa gf 195 (lA kW) (ah7 n):=aMX fun n=>aMW (akO n) (gd (jQ (lB (anE n)) jT) jU) func195 ntmps195 results195
@[go_sem]def aRn:ua:=⟨[],[],(zK::l7 (zA::zT (lA kW)::zK::zK::lH (l7 (l7 (zA::[]))))),[oC [zK,zK,zT (lA jR.row),zK],oY],none,none⟩
@[go_sem]abbrev BL(F:(List kj)->(List jR)->Bool->kj->Option (T9×Unit))(b:T9)(a:Tf):=F a.1 b.1.1 b.1.2.1 b.2.1
@[go_sem]def sr(F:(List kj)->(List jR)->Bool->kj->Option (T9×Unit)):=GR [.arg 0 [],.vA 0 1 []] j4 (lX 0 (lW (lA kW) kJ)) j4 kJ (BL F)
@[reducible] def Rp:kK (T9×Unit):=nh gf f131 n (w9 gf [] [] [0,1] 2 j4 kJ) (cl:=l6 [(186,OU (Uu n)),(187,D6 (Gf n))]) (qj:=oz [([0,1],aRn)])
@[go_sem]abbrev aRo(v0:List kj)(v1 v2:Int)(v3:List jR)(v4:Bool)(r1:kj)(c1:Nat):jS:=⟨(.ptr 0 0::mm (qA::.kF false 1 (mp kX v0)::.int .i64 v1::.int .i64 v2::lK (mm (mm (qA::[]))))),[.cells [.sn 141 0,.lR 1 c1,.kF false 4 (mp jR.cells v3),.bool v4],.Jw (sb r1)],2,[]⟩
abbrev aRp:=(List kj)->Int->Int->(List jR)->Bool->kj->Option (T9×Unit)
abbrev af4(K:List Kt)(Z:aRp):Prop:=∀v0 v1 v2 v3 v4 r1 c1,c1=r1.length->run (Rp n) K (aRo v0 v1 v2 v3 v4 r1 c1)=Z v0 v1 v2 v3 v4 r1
def FE:LB (af4 n) [0,1] [.qg 0]:=mB
def FF:Nat->aRp:=ui ((FE n).1)
def awz{n:Nat}:FF n (m+1)=(FE n).1 (FF n m):=rfl
@[go_sem]def aac(m:Nat):=vi (FE n) (FF n) m
def Rq:SX (Rp n) (lX 0 (lW (lA kW) kJ)) j4 34 BL:=mC
def tV:=fu fun n=>(Rq n).1
def td:∀n:Nat,zt gf 131 (lX 0 (lW (lA kW) kJ)) j4 j4 kJ (BL (tV n)):=VX fun n=>GC (Rq n) (gd (jQ (mV (adM n)) (jQ (mV (P1 n)) jT)) jU) func131 ntmps131 results131
def Gl:ua:=⟨[],[],(l7 (zK::zA::zA::zK::zK::zA::zK::lH (lH (lH (zA::zA::zA::zT (lA kW)::zK::zK::lH []))))),[oC [zK],oM (kZ jR.kv),oD,oK,oA Syntax.row,oT jR.kv],none,none⟩
def Gm:ua:=⟨[(7,8,false)],[],(zK::zA::zA::zK::zK::zA::zA::zK::wv (l7 (l7 (zA::[])))),[oC [zK],oM (kZ jR.kv),oT Syntax.kv,oK,oA Syntax.row],none,none⟩
@[go_sem]def kM:=(tz (Bq (aQP 1 kJ)) (tz (aqO (kZ jR.kv)) Bn))
@[go_sem]def vY:=(lW (kZ jR.kv) (lW (lA Syntax.row) (lW mw kJ)))
@[go_sem]abbrev wK(F:Syntax->Tb->Option TY)(b:Tv)(a:(Syntax×Unit)):=F a.1 b.2.1
@[go_sem]def wL(F:Syntax->Tb->Option TY):=GR [.arg 0 [],.vA 0 0 []] kM (lX 0 (lW (kZ Syntax.kv) kJ)) kM vY (wK F)
@[reducible] def tW:kK TY:=nh gf f297 n (w9 gf [.cell 4 25,.tmp 5,.tmp 6] [] [0,1] 2 kM vY) (cl:=l6 [(315,am9 0 false 8 (Ah [0] (uf (aQL false Syntax.row) sM) (asA 0 (fun(b:Tt)=>b.1.length) IJ) (uf (aQL false Syntax.row) sM) F8 (fun(b:Tt) a=>(OW n) b.1)))]) (qj:=oz [([0,1,0,1,1,1,1,1,1,1],Gl),([0,0,1,1],Gm)]) (cut:=Mh [([1,1,1,1,1,1,1,1,1],[4])]) (uz:=l2 []) (uC:=l2 [])
def Wv:so (tW n) [0,1,1,1,1]=true:=jN
def Ww:xR (tW n) [0,1,1,1,1] 3 11 5 11 6 11 10 11:=⟨jN,jN,jN,jN⟩
attribute [go_sem] Wv Ww Gl Gm
abbrev Gn(v0:Int)(v1:List kj)(v2 v3:Int)(r1:List (kj×jR))(r4:List Syntax)(o5:jR)(c4:Nat):jS:=⟨(mm (.ptr 3 0::qA::qA::.lR 4 c4::.ptr 5 0::qA::.int .i64 v0::lK (lK (lK (qA::qA::qA::.kF false 1 (mp kX v1)::.int .i64 v2::.int .i64 v3::lK []))))),[.cells [.map 1],.map (mp (PX (kZ jR.kv)) r1),.vZ,.cells [.kF true 0 [],.int .i64 0,.int .i64 0,.str (sb [])],.lR false 8 (mp Syntax.cells r4),.cells (jR.cells o5)],2,[]⟩
abbrev zC:List Kt:=[.qg 2,.cut [1,1,1,1,1,1,1,1],.at [1,1,1,1,1,1,1,1]]
abbrev Gp:=Int->(List kj)->Int->Int->Tb->(List Syntax)->jR->Option TY
abbrev Vj(K:List Kt)(Z:Gp):Prop:=∀v0 v1 v2 v3 r1 r4 o5 c4,c4=r4.length->run (tW n) K (Gn v0 v1 v2 v3 r1 r4 o5 c4)=Z v0 v1 v2 v3 r1 r4 o5
abbrev Gq(r1:List (kj×jR))(o2:Syntax)(r4:List Syntax)(c4:Nat):jS:=⟨(.ptr 0 0::qA::qA::.ptr 2 0::.ptr 3 0::qA::qA::.lR 4 c4::wu (mm (mm (qA::[])))),[.cells [.map 1],.map (mp (PX (kZ jR.kv)) r1),.cells (Syntax.cells o2),.cells [.kF true 0 [],.int .i64 0,.int .i64 0,.str (sb [])],.lR false 8 (mp Syntax.cells r4)],2,[]⟩
abbrev Gr:=Tb->Syntax->(List Syntax)->Option TY
abbrev Vk(K:List Kt)(Z:Gr):Prop:=∀r1 o2 r4 c4,c4=r4.length->run (tW n) K (Gq r1 o2 r4 c4)=Z r1 o2 r4
attribute [go_sem] Gn zC Gq
def zD:LB (Vj n) [0,1,0,1,1,1,1,1,1,1] zC:=mB
def zE:Nat->Gp:=ui ((zD n).1)
def aql{n:Nat}:zE n (m+1)=(zD n).1 (zE n m):=rfl
@[go_sem]def P9(m:Nat):=vi (zD n) (zE n) m
def zF:LB (Vk n) [0,0,1,1] [.qg 0,.cut [1,1,1],.at [1,1,1]]:=mB
def zG:Nat->Gr:=ui ((zF n).1)
def aqm{n:Nat}:zG n (m+1)=(zF n).1 (zG n m):=rfl
@[go_sem]def Qa(m:Nat):=vi (zF n) (zG n) m
def Hp:SX (tW n) (lX 0 (lW (kZ Syntax.kv) kJ)) kM 81 wK:=mC
def xV:=fu fun n=>(Hp n).1
def zH:∀n:Nat,zt gf 297 (lX 0 (lW (kZ Syntax.kv) kJ)) kM kM vY (wK (xV n)):=VX fun n=>GC (Hp n) (gd (jQ (abg (pq (fun b a r h=>(ZU n) b.1 r h))) jT) jU) func297 ntmps297 results297
open Go.Proofs
@[reducible] def aq5:kK Int:=nh gf f285 n (l1 gf [.tmp 4] (lr .i64)) (cl:=l6 [(78,nq (kZ jR.kv) mw (Fp n)),(140,nq (kZ jR.kv) mw (C8 n))])
def afe:Ll (aq5 n) (kZ jR.kv) (lr .i64) 51:=mB
def alN:=fu fun n=>(afe n).1
def Iu:∀n:Nat,uu gf 285 (kZ jR.kv) (lr .i64) (lr .i64) (alN n):=yu fun n=>we (afe n) (gd (jQ (lB (C7 n)) (jQ (lB (BG n)) jT)) jU) func285 ntmps285 results285
def Rr:ua:=⟨[],[],(wv (wv (lH (lH (l7 (l7 (l7 (zA::zA::zA::zK::l7 (l7 (zA::zA::zA::[])))))))))),[oK],none,none⟩
def Rs:ua:=⟨[],[],(zK::l7 (zA::zA::zK::zK::zK::zA::zA::zK::wv (wv (lH (lH (l7 (l7 (l7 (zA::zA::[]))))))))),[],none,none⟩
def Rt:ua:=⟨[],[],(zK::l7 (zA::zA::zK::zK::zK::wv (wv (lH (lH (lH (zA::[]))))))),[],none,none⟩
@[reducible] def zi:kK Int:=nh gf f276 n (l1 gf [.tmp 4] (lr .i64)) (cl:=l6 [(302,nP mo (lr .u8) (lr .i64) (strings_IndexByte n)),(303,nq (lr .i32) mw (MX n))]) (cd:=Bp [(302,pR (nP mo (lr .u8) (lr .i64) (strings_IndexByte n)))]) (qj:=oz [([0,1,0,0,1,1,1,0,1],Rr),([0,1,0,1,0,0,1,0,0,0,1,1,1,1,0,1,1,1,1,1,1,0,1],Rs),([0,0,1,1,1,1,0,1,1,1,1,1,1,0,1],Rt)]) (uz:=l2 []) (uC:=l2 [])
def aj0:aIu (zi n) [0,0,0,0,1,0,0,0,1,1,1,1,0,1,1,1,1,1,1,0,1] [0,0,0,1,0,0,1,0,1,0,0,1,0,0,0,1,1,1,1,0,1,1,1,1,1,1,0,1] [0,0,1,0,0,0,1,0,0,0,1,1,1,1,0,1,1,1,1,1,1,0,1]:=⟨jN,jN,jN⟩
attribute [go_sem] aj0 Rr Rs Rt
abbrev Ru(iv0:kj)(ip0:Nat):jS:=⟨(wu (wu (lK (lK (mm (mm (mm (qA::qA::qA::.ptr 0 0::mm (mm (qA::qA::qA::[])))))))))),[.iter (sb iv0) ip0],0,[]⟩
abbrev Rv:List Kt:=[.qg 9,.cut [1,0,1,1,1,0,1],.at [1,0,1,1,1,0,1],.qg 0]
abbrev Rw:=kj->Nat->Option Int
abbrev ah9(K:List Kt)(Z:Rw):Prop:=∀iv0 ip0,run (zi n) K (Ru iv0 ip0)=Z iv0 ip0
abbrev Rx(v0 v1:kj)(v2 v3 v4:Int):jS:=⟨(.str (sb v0)::mm (qA::qA::.str (sb v1)::.int .i64 v2::.int .i64 v3::qA::qA::.int .i64 v4::wu (wu (lK (lK (mm (mm (mm (qA::qA::[]))))))))),[],0,[]⟩
abbrev Ry(m3:Nat):List Kt:=[.qg 3,.cut [1,1,0,0,1,0,0,0,1,1,1,1,0,1,1,1,1,1,1,0,1],.at [1,1,0,0,1,0,0,0,1,1,1,1,0,1,1,1,1,1,1,0,1],.qg 2,.lp m3 [0,0,1,1,1,1,0,1,1,1,1,1,1,0,1],.qg 1,.cut [1,1,1,1,1,0,1,1,1,1,1,1,0,1],.at [1,1,1,1,1,0,1,1,1,1,1,1,0,1],.qg 0]
abbrev Rz:=kj->kj->Int->Int->Int->Option Int
abbrev aia(K:List Kt)(Z:Rz):Prop:=∀v0 v1 v2 v3 v4,run (zi n) K (Rx v0 v1 v2 v3 v4)=Z v0 v1 v2 v3 v4
abbrev RA(v0 v1:kj)(v2 v3:Int):jS:=⟨(.str (sb v0)::mm (qA::qA::.str (sb v1)::.int .i64 v2::.int .i64 v3::wu (wu (lK (lK (lK (qA::[]))))))),[],0,[]⟩
abbrev BM:List Kt:=[.qg 1,.cut [1,1,1,1,1,0,1,1,1,1,1,1,0,1],.at [1,1,1,1,1,0,1,1,1,1,1,1,0,1],.qg 0]
abbrev BN:=kj->kj->Int->Int->Option Int
abbrev Hq(K:List Kt)(Z:BN):Prop:=∀v0 v1 v2 v3,run (zi n) K (RA v0 v1 v2 v3)=Z v0 v1 v2 v3
attribute [go_sem] Ru Rv Rx Ry RA BM
def Hr:LB (ah9 n) [0,1,0,0,1,1,1,0,1] Rv:=mB
def Hs:Nat->Rw:=ui ((Hr n).1)
def ax6{n:Nat}:Hs n (m+1)=(Hr n).1 (Hs n m):=rfl
@[go_sem]def LA(m:Nat):=vi (Hr n) (Hs n) m
def Ht:LB2 (Hq n) [0,0,1,1,1,1,0,1,1,1,1,1,1,0,1] BM (aia n) [0,1,0,1,0,0,1,0,0,0,1,1,1,1,0,1,1,1,1,1,1,0,1] Ry:=mB
def Hu(X3:BN):Nat->Rz:=ui ((Ht n).1 X3)
def ax7{n:Nat}(X3:BN):Hu n X3 (m+1)=(Ht n).1 X3 (Hu n X3 m):=rfl
def abP{m3:Nat}{X3}(h3:Hq n (.lq m3 [0,0,1,1,1,1,0,1,1,1,1,1,1,0,1]::BM) X3)(m:Nat):=aDI (Ht n) h3 (Hu n X3) m
def Hv:LB (Hq n) [0,0,1,1,1,1,0,1,1,1,1,1,1,0,1] BM:=by
 apply gA;intro m X0 ih v0 v1 v2 v3;simp (config:={maxSteps:=100000000}) only[go_sem,gk,gp,gh,gi,gq,gr,gv,gw,gx,gj,gu,gy,f276,gz,mixed,LA n,abP n ih,ih];exact rfl
def Hw:Nat->BN:=ui ((Hv n).1)
def ax8{n:Nat}:Hw n (m+1)=(Hv n).1 (Hw n m):=rfl
@[go_sem]def abQ(m:Nat):=vi (Hv n) (Hw n) m
def UA:Ll (zi n) mo (lr .i32) 187:=mB
def Ni:=fu fun n=>(UA n).1
def RB:∀n:Nat,uu gf 276 mo (lr .i32) (lr .i64) (Ni n):=yu fun n=>we (UA n) (gd (jQ (lw (Q9 n)) (jQ (lB (XI n)) jT)) (lC (qk (Q9 n)) jU)) func276 ntmps276 results276
@[go_sem]def wY:=(lX 0 (lX 1 (lX 2 (lW (ZA 85 (kZ kf.kv)) kJ))))
@[reducible] def vC:kK (Tl×Unit):=nh gf f41 n (w9 gf [] [] [0,1,2] 3 kD kJ) (cl:=l6 [(42,ae6 (akD n))]) (uz:=l2 []) (uC:=l2 [])
@[go_sem]def al3:so (vC n) [1,0,1,1]=true:=jN
@[go_sem]def al4:xR (vC n) [1,0,1,1] 2 6 5 6 2 7 4 7/\auY (vC n) [1,0,1,1] 5 7 6 7:=⟨⟨jN,jN,jN,jN⟩,jN,jN⟩
def Wx:{B:kf->Syntax->Int->Int->Option (Tl×Unit) //∀(a0:kf)(o0:Syntax)(o1:Int)(o2:Int),run (vC n) [.kE (ue (vC n) [0]) ((ue (vC n) [0]).toList.drop 1),.cut [1],.at [1]] (jS.put {j9:=((lX 0 (lX 1 (lX 2 kJ))).enc (kD.mg ((o0,()),(o1,()),(o2,()),())) ())++List.replicate (15-((lX 0 (lX 1 (lX 2 kJ))).enc (kD.mg ((o0,()),(o1,()),(o2,()),())) ()).length) qA,heap:=(kD.enc (kD.mg ((o0,()),(o1,()),(o2,()),())) ((o0,()),(o1,()),(o2,()),())),low:=(kD.enc (kD.mg ((o0,()),(o1,()),(o2,()),())) ((o0,()),(o1,()),(o2,()),())).length} (some 5) ((ZA 85 (kZ kf.kv)).enc a0))=B a0 o0 o1 o2}:=mB
def Iv:=fu fun n=>(Wx n).1
def aj1:∀(n:Nat)(a0:kf)(o0:Syntax)(o1:Int)(o2:Int)(r:(Tl×Unit)),Iv n a0 o0 o1 o2=some r->FnT gf (auP gf 41) (wY.enc (kD.mg ((o0,()),(o1,()),(o2,()),())) (a0,())) (kD.enc (kD.mg ((o0,()),(o1,()),(o2,()),())) ((o0,()),(o1,()),(o2,()),())) (fun o H'=>o=(enR kD kJ r).1/\H'=(enR kD kJ r).2)
 |0,_,_,_,_,_,h=>by cases h
 |n+1,a0,o0,o1,o2,r,h=>by
  exact anj (M:=vC n) (p1:=[]) (b1:=[0,1,2]) (args:=((lX 0 (lX 1 (lX 2 kJ))).enc (kD.mg ((o0,()),(o1,()),(o2,()),())) ())) (x:=(ZA 85 (kZ kf.kv)).enc a0) ⟨(jQ (mV (apg n)) jT),jU,pd _,pI _,rK,rL,sA,rX⟩ func41 rfl (jN) (sy (Nat.le_trans (jI (jN)) (Nat.le_of_eq (kD.sz _ _).symm)) _ (wY.nb (kD.mg ((o0,()),(o1,()),(o2,()),())) (a0,()))) (fun x hx=>Ai (Nat.le_trans (jI (jN)) (Nat.le_of_eq (kD.sz _ _).symm)) _ (kD.nb _ _ x hx)) ntmps41 results41 (low:=3) (by rfl) rfl (((Wx n).2 a0 o0 o1 o2).trans h)
@[reducible] def aj2:kK Bool:=nh gf f244 n (l1 gf [.tmp 4] mw) (cl:=l6 [(280,nP mo mo mw (C9 n))])
def UB:Ll (aj2 n) mo mo 8:=mB
def YJ:=fu fun n=>(UB n).1
def aib:∀n:Nat,uu gf 244 mo mo mw (YJ n):=yu fun n=>we (UB n) (gd (jQ (lw (Mj n)) jT) jU) func244 ntmps244 results244
@[reducible] def RC:kK Int:=nh gf f84 n (l1 gf [.tmp 2] (lr .i64)) (cd:=Bp [(94,pR (nq (uL jP.kv) (kZ lz.kv) (nr n)))]) (uz:=l2 []) (uC:=l2 [])
@[go_sem]def aic:so (RC n) [0,1]=true:=jN
def RD:Jx (RC n) (uL jP.kv) 11:=mB
def vD:=fu fun n=>(RD n).1
def uM:∀n:Nat,uj gf 84 (uL jP.kv) (lr .i64) (vD n):=ww fun n=>uU (RD n) (gd jT (lC (nu (mO n)) jU)) func84 ntmps84 results84
@[reducible] def Hx:kK (Te×(kj×Unit)):=nh gf f88 n (ao4 gf [.tmp 2] (uf (Ax jP.kv) sM) (VQ mo F8) 1) (cl:=l6 [(94,DX (pR (nq (uL jP.kv) (kZ lz.kv) (nr n))))]) (uz:=l2 []) (uC:=l2 [])
@[go_sem]def aid:so (Hx n) [0,0,1,1]=true:=jN
def RE:{B:jP->Option (Te×(kj×Unit)) //∀(a0:jP),run (Hx n) [.at []] (ini ((XA 0 IJ).enc (a0,()) ()) 26 ((uf (Ax jP.kv) sM).enc (a0,())))=B a0}:=mB
def mZ:=fu fun n=>(RE n).1
def mq:∀(n:Nat)(a0:jP)(r:(Te×(kj×Unit))),mZ n a0=some r->FnG gf 88 ((XA 0 IJ).enc (a0,()) ()) ((uf (Ax jP.kv) sM).enc (a0,())) (fun o H'=>o=.ret (sZ ((VQ mo F8).enc r.1 r.2))/\H'=(uf (Ax jP.kv) sM).enc r.1)
 |0,_,_,h=>by cases h
 |n+1,a0,r,h=>by
  exact vX (M:=Hx n) ⟨(jQ (qp (nu (mO n))) jT),jU,pd _,pI _,rK,rL,sA,rX⟩ func88 rfl rfl (by simp only[go_sem,gk,gp,gh,gi,gq,gr,gv,gw,gx,gj,gu,gy]) ((uf (Ax jP.kv) sM).nb _ _) ntmps88 results88 (fun J hs=>Yi hs) (((RE n).2 a0).trans h)
open Go.Proofs
@[reducible] def al5:kK Bool:=nh gf f85 n (l1 gf [.tmp 6] mw) (cl:=l6 [(94,nq (uL jP.kv) (kZ lz.kv) (nr n))])
def Wy:SC3 (al5 n) (uL jP.kv) (lr .i64) mo 20:=mB
def Al:=fu fun n=>(Wy n).1
def zj:∀n:Nat,auZ gf 85 (uL jP.kv) (lr .i64) mo mw (Al n):=aIv fun n=>aDK (Wy n) (gd (jQ (lB (mO n)) jT) jU) func85 ntmps85 results85
@[reducible] def adX:kK Bool:=nh gf f207 n (l1 gf [.tmp 2] mw) (cl:=l6 [(12,nP mo mo mw (strings_Contains n)),(94,nq (uL jP.kv) (kZ lz.kv) (nr n))])
def Nj:Jx (adX n) (uL jP.kv) 15:=mB
def BO:=fu fun n=>(Nj n).1
def Df:∀n:Nat,uj gf 207 (uL jP.kv) mw (BO n):=ww fun n=>uU (Nj n) (gd (jQ (lw (Cz n)) (jQ (lB (mO n)) jT)) jU) func207 ntmps207 results207
def abR:ua:=⟨[],[],(zA::zK::zK::lH (lH (zA::zA::zA::zK::zK::l7 (l7 (l7 (zA::zA::[])))))),[oC [zK,zK,zK,zK,zK,zK,zK,zK],oK,oA kW,oA jX.row,oA Syntax.row],none,none⟩
def abS:ua:=⟨[],[],(zA::zK::zK::l7 (l7 (l7 (zK::zK::lH (lH (l7 (zA::[]))))))),[oC [zK,zK,zK,zK,zK,zT (lA Syntax.row),zK,zK],oK,oA kW,oA jX.row],none,none⟩
@[reducible] def xd(X:Syntax->Option Syntax)(n:Nat):kK Syntax:=nh gf f208 n (l1 gf [.cell 2 37] (kZ Syntax.kv)) (cl:=l6 [(37,Ah [] sM (asT (lA kW) IJ) (uf (aQL true kW) sM) (rsA 0 (fun(b:Tf)=>b.1.length) F8) (fun(b:Unit) a=>(tI n) a.1)),(247,Ah [] sM (asT (lA jX.row) IJ) (uf (aQL false jX.row) sM) (rsA 0 (fun(b:(Tk×Unit))=>b.1.length) F8) (fun(b:Unit) a=>(Hi n) a.1)),(249,Ah [] sM (asT (lA Syntax.row) IJ) (uf (aQL false Syntax.row) sM) (rsA 0 (fun(b:Tt)=>b.1.length) F8) (fun(b:Unit) a=>(OY n) a.1))]) (cd:=Bp [(208,pR (nq (kZ Syntax.kv) (kZ Syntax.kv) X)),(248,pR (nq (lA j7.row) (lA j7.row) (M1 n)))]) (qj:=oz [([0,1,0,1,1,1,1,1],abR),([0,1,0,1,1,1],abS)]) (cut:=Mh [([1,1,1,1,1,1],[3,4])]) (uz:=l2 []) (uC:=l2 [])
def aq6(X:Syntax->Option Syntax)(n:Nat):anm (xd X n) [1,0,0,1,1,0,0,1,0,1,1,1] [1,0,0,1,1,0,0,1,0,1,1,1,1,1]:=⟨jN,jN⟩
def aq7(X:Syntax->Option Syntax)(n:Nat):xR (xd X n) [1,0,0,1,1,0,0,1,0,1,1,1] 1 12 4 12 6 12 8 12/\Mt (xd X n) [1,0,0,1,1,0,0,1,0,1,1,1] 10 12=true/\xR (xd X n) [1,0,0,1,1,0,0,1,0,1,1,1,1,1] 1 10 4 10 6 10 7 10/\Mt (xd X n) [1,0,0,1,1,0,0,1,0,1,1,1,1,1] 9 10=true:=⟨⟨jN,jN,jN,jN⟩,jN,⟨jN,jN,jN,jN⟩,jN⟩
attribute [go_sem] aq6 aq7 abR abS
@[go_sem]abbrev abT(v0 v1 v2:Int)(v3:kj)(v4 v5 v6:Int)(r2:List kj)(r3:List jX)(r4:List Syntax)(c2:Nat)(c3:Nat)(c4:Nat):jS:=⟨(qA::.ptr 0 0::.ptr 1 0::lK (lK (qA::qA::qA::.int .i64 v0::.int .i64 v1::mm (mm (mm (qA::qA::[])))))),[.cells [.int .i64 v2,.str (sb v3),.int .i64 v4,.lR 2 c2,.lR 3 c3,.lR 4 c4,.int .i64 v5,.int .i64 v6],.cells [.int .i64 0,.str (sb []),.int .i64 0,.kF true 0 [],.kF true 0 [],.kF true 0 [],.int .i64 0,.int .i64 0],.lR true 1 (mp kX r2),.lR false 2 (mp jX.cells r3),.lR false 8 (mp Syntax.cells r4)],0,[]⟩
abbrev abU:=Int->Int->Int->kj->Int->Int->Int->(List kj)->Tk->(List Syntax)->Option Syntax
abbrev apl(X:Syntax->Option Syntax)(n:Nat)(K:List Kt)(Z:abU):Prop:=∀v0 v1 v2 v3 v4 v5 v6 r2 r3 r4 c2 c3 c4,c2=r2.length->c3=r3.length->c4=r4.length->run (xd X n) K (abT v0 v1 v2 v3 v4 v5 v6 r2 r3 r4 c2 c3 c4)=Z v0 v1 v2 v3 v4 v5 v6 r2 r3 r4
@[go_sem]abbrev abV(v0 v1 v2:Int)(v3:kj)(v4:Int)(v5:List Syntax)(v6 v7:Int)(r2:List kj)(r3:List jX)(c2:Nat)(c3:Nat):jS:=⟨(qA::.ptr 0 0::.ptr 1 0::mm (mm (mm (.int .i64 v0::.int .i64 v1::lK (lK (mm (qA::[]))))))),[.cells [.int .i64 v2,.str (sb v3),.int .i64 v4,.lR 2 c2,.lR 3 c3,.kF false 8 (mp Syntax.cells v5),.int .i64 v6,.int .i64 v7],.cells [.int .i64 0,.str (sb []),.int .i64 0,.kF true 0 [],.kF true 0 [],.kF true 0 [],.int .i64 0,.int .i64 0],.lR true 1 (mp kX r2),.lR false 2 (mp jX.cells r3)],0,[]⟩
abbrev abW:=Int->Int->Int->kj->Int->(List Syntax)->Int->Int->(List kj)->Tk->Option Syntax
abbrev apm(X:Syntax->Option Syntax)(n:Nat)(K:List Kt)(Z:abW):Prop:=∀v0 v1 v2 v3 v4 v5 v6 v7 r2 r3 c2 c3,c2=r2.length->c3=r3.length->run (xd X n) K (abV v0 v1 v2 v3 v4 v5 v6 v7 r2 r3 c2 c3)=Z v0 v1 v2 v3 v4 v5 v6 v7 r2 r3
def Qb(X:Syntax->Option Syntax)(n:Nat):LB (apl X n) [0,1,0,1,1,1,1,1] [.qg 2,.cut [1,1,1,1,1,1],.at [1,1,1,1,1,1]]:=mB
def Qc(X:Syntax->Option Syntax)(n:Nat):Nat->abU:=ui ((Qb X n).1)
def aDP(X:Syntax->Option Syntax){n:Nat}:Qc X n (m+1)=(Qb X n).1 (Qc X n m):=rfl
@[go_sem]def aj3(X:Syntax->Option Syntax)(n:Nat)(m:Nat):=vi (Qb X n) (Qc X n) m
def Qd(X:Syntax->Option Syntax)(n:Nat):LB (apm X n) [0,1,0,1,1,1] [.qg 0,.cut [1,1,1,1],.at [1,1,1,1]]:=mB
def Qe(X:Syntax->Option Syntax)(n:Nat):Nat->abW:=ui ((Qd X n).1)
def aDQ(X:Syntax->Option Syntax){n:Nat}:Qe X n (m+1)=(Qd X n).1 (Qe X n m):=rfl
@[go_sem]def aj4(X:Syntax->Option Syntax)(n:Nat)(m:Nat):=vi (Qd X n) (Qe X n) m
def aff(X:Syntax->Option Syntax)(n:Nat):Jx (xd X n) (kZ Syntax.kv) 54:=mB
def QB:Nat->Syntax->Option Syntax
 |0,_=>none
 |n+1,a0=>(aff (QB n) n).1 a0
def abX:∀n:Nat,uj gf 208 (kZ Syntax.kv) (kZ Syntax.kv) (QB n)
 |0=>fun _ _ h=>(by cases h)
 |n+1=>by
  have apn:=abX n;exact uU (aff (QB n) n) (gd (jQ (pq (fun b a r h=>(AJ n) a.1 r h)) (jQ (pq (fun b a r h=>(Rd n) a.1 r h)) (jQ (pq (fun b a r h=>(ZZ n) a.1 r h)) jT))) (lC (nu (apn)) (lC (nu (XM n)) jU))) func208 ntmps208 results208
@[reducible] def BP:kK (Te×(Syntax×Unit)):=nh gf f150 n (ao4 gf [.cell 2 37] (uf (Ax jP.kv) sM) (VQ (kZ Syntax.kv) F8) 1) (co:=aQQ [(205,aeY (pR (nq (uL jP.kv) (lr .i64) (uF n))))]) (uz:=l2 [205]) (uC:=l2 [])
@[go_sem]def aie:so (BP n) [0,1]=true:=jN
@[go_sem]def aif:aDH (BP n) [0,1] 3 7 3 9 7 9:=⟨jN,jN,jN⟩
def RF:{B:jP->Option (Te×(Syntax×Unit)) //∀(a0:jP),run (BP n) [.at []] (ini ((XA 0 IJ).enc (a0,()) ()) 12 ((uf (Ax jP.kv) sM).enc (a0,())))=B a0}:=mB2
def KU:=fu fun n=>(RF n).1
def aRq:∀(n:Nat)(a0:jP)(r:(Te×(Syntax×Unit))),KU n a0=some r->FnG gf 150 ((XA 0 IJ).enc (a0,()) ()) ((uf (Ax jP.kv) sM).enc (a0,())) (fun o H'=>o=.ret (sZ ((VQ (kZ Syntax.kv) F8).enc r.1 r.2))/\H'=(uf (Ax jP.kv) sM).enc r.1)
 |0,_,_,h=>by cases h
 |n+1,a0,r,h=>by
  exact vX (M:=BP n) ⟨jT,jU,pd _,pI _,rK,rL,sA,(nQ (QZ (nu (tQ n))) tP)⟩ func150 rfl rfl (by simp only[go_sem,gk,gp,gh,gi,gq,gr,gv,gw,gx,gj,gu,gy]) ((uf (Ax jP.kv) sM).nb _ _) ntmps150 results150 (fun J hs=>Yi hs) (((RF n).2 a0).trans h)
@[go_sem]def Hy:ua:=⟨[],[],(zK::zT (uL (cL j8.row))::zA::zK::l7 (l7 (l7 (zA::zA::zA::[])))),[oL [zA,zA,zA,zK,zA,zK,zA,zA,zA,zA,zA,zA,zA,zA,zA,zA,zA,zA,zA,zA,zA,zA,zA,zA,zA,zA,zA,zA,zA],oT Syntax.kv,oT Syntax.kv],none,none⟩
@[go_sem]def wM:=(aQP 0 (lW (uL (cL j8.row)) kJ))
@[go_sem]abbrev xm(F:TF->Syntax->Syntax->Option (Tw×Unit))(b:T18)(a:(TF×Unit)):=F a.1 b.2.1.1 b.2.2.1.1
@[go_sem]def IS(F:TF->Syntax->Syntax->Option (Tw×Unit)):=GR [.arg 0 [],.vA 0 3 [],.vA 0 5 []] lD wM nK kJ (xm F)
@[reducible] def IT:kK (Tw×Unit):=nh gf f246 n (w9 gf [] [] [0,1,2] 3 nK kJ) (qj:=oz [([0,1],Hy)]) (cy:=asV [(0,aAD [.vA 0 3 [],.vA 0 5 []] lD uw nK (lW mw kJ) (fun(b:T18)(a:(Int×(j8×Unit)))=>(M2 n) a.1 a.2.1 b.2.1.1 b.2.2.1.1))])
attribute [go_sem] Eo
@[go_sem]abbrev Hz(v0:List j8)(v1 j0:Int)(o1 o2:Syntax):jS:=⟨(.map 0::.pp [.kF false 9 (mp j8.cells v0)]::qA::.int .i64 v1::mm (mm (mm (qA::qA::qA::[])))),[.loop qa [qA,qA,qA,.ptr 1 0,qA,.ptr 2 0,qA,qA,qA,qA,qA,qA,qA,qA,qA,qA,qA,qA,qA,qA,qA,qA,qA,qA,qA,qA,qA,qA,qA] (stJ qa j0) j0,.cells (Syntax.cells o1),.cells (Syntax.cells o2)],3,[]⟩
abbrev HA:=TF->Int->Int->Syntax->Syntax->Option (Tw×Unit)
abbrev Wz(K:List Kt)(Z:HA):Prop:=∀v0 v1 j0 o1 o2,run (IT n) K (Hz v0 v1 j0 o1 o2)=Z v0 v1 j0 o1 o2
def AU:LB (Wz n) [0,1] [.qg 0]:=mB
def AW:Nat->HA:=ui ((AU n).1)
def aq8{n:Nat}:AW n (m+1)=(AU n).1 (AW n m):=rfl
@[go_sem]def RG(m:Nat):=vi (AU n) (AW n) m
def IU:SX (IT n) wM lD 19 xm:=mC
def LC:=fu fun n=>(IU n).1
def WA:∀n:Nat,zt gf 246 wM lD nK kJ (xm (LC n)):=VX fun n=>GC (IU n) (gd jT jU (y:=(Mu (fun _ _ _ _ _ h=>anc (fun b a r h=>(XN n) a.1 a.2.1 b.2.1.1 b.2.2.1.1 r h) h) QX))) func246 ntmps246 results246
@[go_sem]def jO:=(tz (Bq (aQO jP.kv 6 kJ)) Bn)
@[go_sem]abbrev yI(F:jP->Option TJ)(b:T6)(a:Unit):=F b.1.1
@[go_sem]def abY(F:jP->Option TJ):=GR [.arg 0 []] jO (lX 0 kJ) jO (lW mo kJ) (yI F)
@[reducible] def LD:kK TJ:=nh gf f88 n (w9 gf [.tmp 2] [] [0] 1 jO (lW mo kJ)) (cl:=l6 [(94,DX (pR (nq (uL jP.kv) (kZ lz.kv) (nr n))))]) (uz:=l2 []) (uC:=l2 [])
@[go_sem]def abZ:so (LD n) [0,0,1,1]=true:=jN
def LF:SX (LD n) (lX 0 kJ) jO 26 yI:=mC
def aRr:=fu fun n=>(LF n).1
def aad:∀n:Nat,zt gf 88 (lX 0 kJ) jO jO (lW mo kJ) (yI (aRr n)):=VX fun n=>GC (LF n) (gd (jQ (qp (nu (mO n))) jT) jU) func88 ntmps88 results88
open Go.Proofs
@[reducible] def adY:kK Bool:=nh gf f210 n (l1 gf [.tmp 2] mw) (cl:=l6 [(94,nq (uL jP.kv) (kZ lz.kv) (nr n))])
def Nk:Jx (adY n) (uL jP.kv) 48:=mB
def HB:=fu fun n=>(Nk n).1
def LG:∀n:Nat,uj gf 210 (uL jP.kv) mw (HB n):=ww fun n=>uU (Nk n) (gd (jQ (lB (mO n)) jT) jU) func210 ntmps210 results210
@[go_sem]def alP:ua:=⟨[(6,1,true)],[],(l7 (zA::zT (tyF 213)::zK::lH (l7 (zT (lA lz.row)::zK::zK::lH (l7 (l7 (zA::zA::zA::[]))))))),[oT jP.kv,oA kW],none,none⟩
@[reducible] def Dg:kK (Te×Tf):=nh gf f157 n (ao4 gf [.tmp 4] (uf (Ax jP.kv) sM) (VQ (lA kW) F8) 1) (cl:=l6 [(12,nP mo mo mw (strings_Contains n)),(213,nP (kZ lz.kv) mo mw (Ly n))]) (qj:=oz [([0,1,0,1,1,1,1],alP)])
@[go_sem]abbrev alT(v0:List lz)(v1 v2:Int)(o0:jP)(r1:List kj)(c1:Nat):jS:=⟨(mm (qA::.func (.func 213) [] []::.lR 1 c1::lK (mm (.kF false 3 (mp lz.cells v0)::.int .i64 v1::.int .i64 v2::lK (mm (mm (qA::qA::qA::[]))))))),[.cells (jP.cells o0),.lR true 1 (mp kX r1)],1,[]⟩
abbrev asN:=(List lz)->Int->Int->jP->(List kj)->Option (Te×Tf)
abbrev aae(K:List Kt)(Z:asN):Prop:=∀v0 v1 v2 o0 r1 c1,c1=r1.length->run (Dg n) K (alT v0 v1 v2 o0 r1 c1)=Z v0 v1 v2 o0 r1
def B7:LB (aae n) [0,1,0,1,1,1,1] [.qg 0,.cut [1,1,1,1,1],.at [1,1,1,1,1]]:=mB
def B8:Nat->asN:=ui ((B7 n).1)
def atI{n:Nat}:B8 n (m+1)=(B7 n).1 (B8 n m):=rfl
@[go_sem]def Vl(m:Nat):=vi (B7 n) (B8 n) m
def LH:{B:jP->Int->Option (Te×Tf) //∀(a0:jP)(a1:Int),run (Dg n) [.at []] (ini ((XA 0 (asT (lr .i64) IJ)).enc (a0,()) (a1,())) 57 ((uf (Ax jP.kv) sM).enc (a0,())))=B a0 a1}:=mB
def Pa:=fu fun n=>(LH n).1
def aaf:∀(n:Nat)(a0:jP)(a1:Int)(r:(Te×Tf)),Pa n a0 a1=some r->FnG gf 157 ((XA 0 (asT (lr .i64) IJ)).enc (a0,()) (a1,())) ((uf (Ax jP.kv) sM).enc (a0,())) (fun o H'=>o=.ret (sZ ((VQ (lA kW) F8).enc r.1 r.2))/\H'=(uf (Ax jP.kv) sM).enc r.1)
 |0,_,_,_,h=>by cases h
 |n+1,a0,a1,r,h=>by
  exact vX (M:=Dg n) ⟨(jQ (lw (Cz n)) (jQ (lw (Wk n)) jT)),jU,pd _,pI _,rK,rL,sA,rX⟩ func157 rfl rfl (by simp only[go_sem,gk,gp,gh,gi,gq,gr,gv,gw,gx,gj,gu,gy]) ((uf (Ax jP.kv) sM).nb _ _) ntmps157 results157 (fun J hs=>Yi hs) (((LH n).2 a0 a1).trans h)
@[go_sem]def Ex:ua:=⟨[],[],(zA::zK::wv (lH (lH (lH (l7 (zA::zA::zA::[])))))),[oT Syntax.kv],none,none⟩
@[reducible] def qh:kK Bool:=nh gf f124 n (l1 gf [.tmp 2] mw) (cl:=l6 [(127,nq (lr .i64) mw (Qx n)),(181,nq (lr .i64) (lr .i64) (akE n))]) (cut:=oz [([1,1,1,1,1,1],Ex),([1,1,1,1,1],Ex),([1,1,1],Ex)])
@[go_sem]abbrev vE(o0:Syntax):jS:=⟨(qA::.ptr 0 0::wu (lK (lK (lK (mm (qA::qA::qA::[])))))),[.cells (Syntax.cells o0)],0,[]⟩
def YK:{B:Syntax->Option Bool //∀(o0:Syntax),run (qh n) [.at [1,1,1,1,1,1]] (vE o0)=B o0}:=by
 apply gA;intro o0;simp (config:={maxSteps:=100000000}) only[go_sem,gk,gp,gh,gi,gq,gr,gv,gw,gx,gj,gu,gy,f124,gz,mixed];exact rfl
def YL(J:jS):Option Bool:=run (qh n) [.at [1,1,1,1,1,1]] J
def Jf:run (qh n) [.cut [1,1,1,1,1,1],.at [1,1,1,1,1,1]] J=((qh n).cut [1,1,1,1,1,1] J).bind (YL n):=arO
def HC:∀(o0:Syntax),YL n (vE o0)=(YK n).1 o0:=(YK n).2
def YM:{B:Syntax->Option Bool //∀(o0:Syntax),run (qh n) [.at [1,1,1,1,1]] (vE o0)=B o0}:=by
 apply gA;intro o0;simp (config:={maxSteps:=100000000}) only[go_sem,gk,gp,gh,gi,gq,gr,gv,gw,gx,gj,gu,gy,f124,gz,mixed,↓Jf n,HC n];exact rfl
def YN(J:jS):Option Bool:=run (qh n) [.at [1,1,1,1,1]] J
def UC:run (qh n) [.cut [1,1,1,1,1],.at [1,1,1,1,1]] J=((qh n).cut [1,1,1,1,1] J).bind (YN n):=arO
def RH:∀(o0:Syntax),YN n (vE o0)=(YM n).1 o0:=(YM n).2
def YO:{B:Syntax->Option Bool //∀(o0:Syntax),run (qh n) [.at [1,1,1]] (vE o0)=B o0}:=by
 apply gA;intro o0;simp (config:={maxSteps:=100000000}) only[go_sem,gk,gp,gh,gi,gq,gr,gv,gw,gx,gj,gu,gy,f124,gz,mixed,↓Jf n,HC n,↓UC n,RH n];exact rfl
def YP(J:jS):Option Bool:=run (qh n) [.at [1,1,1]] J
def aj5:run (qh n) [.cut [1,1,1],.at [1,1,1]] J=((qh n).cut [1,1,1] J).bind (YP n):=arO
def aig:∀(o0:Syntax),YP n (vE o0)=(YO n).1 o0:=(YO n).2
def ab0:Jx (qh n) (kZ Syntax.kv) 121:=by
 apply gA;intro a0;simp (config:={maxSteps:=100000000}) only[go_sem,gk,gp,gh,gi,gq,gr,gv,gw,gx,gj,gu,gy,f124,gz,mixed,↓Jf n,HC n,↓UC n,RH n,↓aj5 n,aig n];exact rfl
def aih:=fu fun n=>(ab0 n).1
def anU:∀n:Nat,uj gf 124 (kZ Syntax.kv) mw (aih n):=ww fun n=>uU (ab0 n) (⟨(jQ (lB (P2 n)) (jQ (lB (aph n)) jT)),jU,pd _,pd _,rK,rL,sA,rX⟩) func124 ntmps124 results124
@[reducible] def KF:kK Syntax:=nh gf f54 n (l1 gf [.cell 6 37] (kZ Syntax.kv)) (cd:=Bp [(52,pR (nq mo (kZ Syntax.kv) (Z5 n))),(53,pR (nP (kZ Syntax.kv) (kZ Syntax.kv) (kZ Syntax.kv) (Z6 n)))]) (uz:=l2 []) (uC:=l2 [])
@[go_sem]def aq9:so (KF n) [0,1]=true:=jN
@[go_sem]def ara:xR (KF n) [0,1] 0 8 1 8 2 8 4 8/\Mt (KF n) [0,1] 6 8=true:=⟨⟨jN,jN,jN,jN⟩,jN⟩
def afg:SC4 (KF n) (kZ Syntax.kv) (kZ Syntax.kv) (uL (cF 53)) (uL (cF 52)) 15:=mB
def akP:=fu fun n=>(afg n).1
def apo:∀n:Nat,aDJ gf 54 (kZ Syntax.kv) (kZ Syntax.kv) (uL (cF 53)) (uL (cF 52)) (kZ Syntax.kv) (akP n):=aMY fun n=>aKQ (afg n) (gd jT (lC (nu (abI n)) (lC (qk (abJ n)) jU))) func54 ntmps54 results54
def akQ:ua:=⟨[],[(3,4,5)],(zA::zT (lA kW)::zT (lA kW)::zK::zA::zA::zK::zA::zA::zA::zK::wv (wv (zA::zA::zT (lA Syntax.row)::zK::zK::lH (lH (lH (l7 (zA::zA::zA::[]))))))),[oT Syntax.kv,oK,oD,oC [zK,zK,zK,zK,zK],oA kA.row,oA jW.row],none,none⟩
def akR:ua:=⟨[],[(3,3,2)],(zA::zT (lA kW)::zT (lA kW)::zK::zA::zA::zK::zA::zA::zA::zK::wv (lH (lH (l7 (l7 (zA::zA::zA::zT (lA jX.row)::zK::zK::wv (l7 (l7 (l7 (zA::zA::[])))))))))),[oT Syntax.kv,oK,oD,oC [zK,zK,zK,zK,zK],oA kA.row],none,none⟩
def akS:ua:=⟨[],[],(zA::zT (lA kW)::zA::zK::zA::zA::zK::zA::zA::zK::wv (wv (lH (lH (lH (l7 (l7 (l7 (zA::[]))))))))),[oT Syntax.kv,oK],none,none⟩
@[reducible] def xW(X:Syntax->(List kj)->(List kj)->Option (jW×Bool))(n:Nat):kK (jW×Bool):=nh gf f21 n (l1 gf [.cell 6 49,.tmp 7] (Qr (kZ jW.kv) mw)) (cl:=l6 [(21,Zv (kZ Syntax.kv) (lA kW) (lA kW) (Qr (kZ jW.kv) mw) X),(61,nP (kZ jX.kv) (lA kW) (Qr (kZ kA.kv) mw) (uG n))]) (qj:=oz [([0,1,0,1,1,1,1,1,1,1],akQ),([0,1,0,1,1,1,1,1,1],akR),([0,1,0,0,1,0,1,1],akS)]) (uz:=l2 []) (uC:=l2 [37]) (ce:=aAl [(37,aC4 (asT (lA kW) IJ) (uf (aQL true kW) sM) (rsA 0 (fun(b:Tf)=>b.1.length) F8) (fun a=>(tI n) a.1))])
def ax9(X:Syntax->(List kj)->(List kj)->Option (jW×Bool))(n:Nat):aIu (xW X n) [0,0,0,1,0,0,1,0,0,1,0,1,1] [0,1,0,1,1,0,0,1,1,0,0,1,0,1,1,1,1,1,1,1] [0,1,0,1,1,1]:=⟨jN,jN,jN⟩
def aya(X:Syntax->(List kj)->(List kj)->Option (jW×Bool))(n:Nat):auY (xW X n) [0,1,0,1,1,0,0,1,1,0,0,1,0,1,1,1,1,1,1,1] 1 5 3 5/\xR (xW X n) [0,1,0,1,1,1] 1 20 2 20 3 20 5 20/\xR (xW X n) [0,1,0,1,1,1] 6 20 8 20 9 20 10 20/\xR (xW X n) [0,1,0,1,1,1] 12 20 13 20 15 20 16 20/\Mt (xW X n) [0,1,0,1,1,1] 17 20=true:=⟨⟨jN,jN⟩,⟨jN,jN,jN,jN⟩,⟨jN,jN,jN,jN⟩,⟨jN,jN,jN,jN⟩,jN⟩
attribute [go_sem] ax9 aya akQ akR akS
abbrev akT(v0 v1:List kj)(v2:List Syntax)(v3 v4:Int)(o0:Syntax)(v6:Int)(v7:kj)(r4:List kA)(r5:List jW)(c4:Nat)(c5:Nat):jS:=⟨(qA::.kF false 1 (mp kX v0)::.kF false 1 (mp kX v1)::.ptr 0 0::qA::qA::.ptr 1 0::qA::qA::qA::.ptr 3 0::wu (wu (qA::qA::.kF false 8 (mp Syntax.cells v2)::.int .i64 v3::.int .i64 v4::lK (lK (lK (mm (qA::qA::qA::[]))))))),[.cells (Syntax.cells o0),.cells [.int .i64 0,.int .i64 0,.str (sb []),.kF true 0 [],.kF true 0 []],.vZ,.cells [.int .i64 v6,.int .i64 0,.str (sb v7),.lR 4 c4,.lR 5 c5],.lR true 2 (mp kA.cells r4),.lR true 5 (mp jW.cells r5)],0,[]⟩
abbrev akU:List Kt:=[.qg 4,.cut [1,1,1,1,1,1,1,1],.at [1,1,1,1,1,1,1,1]]
abbrev akV:=(List kj)->(List kj)->(List Syntax)->Int->Int->Syntax->Int->kj->(List kA)->(List jW)->Option (jW×Bool)
abbrev avo(X:Syntax->(List kj)->(List kj)->Option (jW×Bool))(n:Nat)(K:List Kt)(Z:akV):Prop:=∀v0 v1 v2 v3 v4 o0 v6 v7 r4 r5 c4 c5,c4=r4.length->c5=r5.length->run (xW X n) K (akT v0 v1 v2 v3 v4 o0 v6 v7 r4 r5 c4 c5)=Z v0 v1 v2 v3 v4 o0 v6 v7 r4 r5
abbrev akW(v0 v1:List kj)(v2:List jX)(v3 v4:Int)(o0:Syntax)(v6:Int)(v7:kj)(r4:List kA)(c4:Nat):jS:=⟨(qA::.kF false 1 (mp kX v0)::.kF false 1 (mp kX v1)::.ptr 0 0::qA::qA::.ptr 1 0::qA::qA::qA::.ptr 3 0::wu (lK (lK (mm (mm (qA::qA::qA::.kF false 2 (mp jX.cells v2)::.int .i64 v3::.int .i64 v4::wu (mm (mm (mm (qA::qA::[])))))))))),[.cells (Syntax.cells o0),.cells [.int .i64 0,.int .i64 0,.str (sb []),.kF true 0 [],.kF true 0 []],.vZ,.cells [.int .i64 v6,.int .i64 0,.str (sb v7),.lR 4 c4,.kF true 0 []],.lR true 2 (mp kA.cells r4)],0,[]⟩
abbrev akX:List Kt:=[.qg 2,.cut [1,1,1,1,1,1,1],.at [1,1,1,1,1,1,1]]
abbrev akY:=(List kj)->(List kj)->Tk->Int->Int->Syntax->Int->kj->(List kA)->Option (jW×Bool)
abbrev avp(X:Syntax->(List kj)->(List kj)->Option (jW×Bool))(n:Nat)(K:List Kt)(Z:akY):Prop:=∀v0 v1 v2 v3 v4 o0 v6 v7 r4 c4,c4=r4.length->run (xW X n) K (akW v0 v1 v2 v3 v4 o0 v6 v7 r4 c4)=Z v0 v1 v2 v3 v4 o0 v6 v7 r4
abbrev akZ(v0:List kj)(v1:Int)(o0:Syntax):jS:=⟨(qA::.kF false 1 (mp kX v0)::qA::.ptr 0 0::qA::qA::.ptr 1 0::qA::qA::.int .i64 v1::wu (wu (lK (lK (lK (mm (mm (mm (qA::[]))))))))),[.cells (Syntax.cells o0),.cells [.int .i64 0,.int .i64 0,.str (sb []),.kF true 0 [],.kF true 0 []]],0,[]⟩
abbrev aag:List Kt:=[.qg 0,.cut [1,0,1,0,1,1],.at [1,0,1,0,1,1],.cut [1,1,1],.at [1,1,1]]
abbrev ak0:=(List kj)->Int->Syntax->Option (jW×Bool)
abbrev avq(X:Syntax->(List kj)->(List kj)->Option (jW×Bool))(n:Nat)(K:List Kt)(Z:ak0):Prop:=∀v0 v1 o0,run (xW X n) K (akZ v0 v1 o0)=Z v0 v1 o0
attribute [go_sem] akT akU akW akX akZ aag
def asP(X:Syntax->(List kj)->(List kj)->Option (jW×Bool))(n:Nat):LB (avo X n) [0,1,0,1,1,1,1,1,1,1] akU:=mB
def B9(X:Syntax->(List kj)->(List kj)->Option (jW×Bool))(n:Nat):Nat->akV:=ui ((asP X n).1)
def afh(X:Syntax->(List kj)->(List kj)->Option (jW×Bool)){n:Nat}:B9 X n (m+1)=(asP X n).1 (B9 X n m):=rfl
@[go_sem]def apq(X:Syntax->(List kj)->(List kj)->Option (jW×Bool))(n:Nat)(m:Nat):=vi (asP X n) (B9 X n) m
def ay4(X:Syntax->(List kj)->(List kj)->Option (jW×Bool))(n:Nat):LB (avp X n) [0,1,0,1,1,1,1,1,1] akX:=mB
def xX(X:Syntax->(List kj)->(List kj)->Option (jW×Bool))(n:Nat):Nat->akY:=ui ((ay4 X n).1)
def afi(X:Syntax->(List kj)->(List kj)->Option (jW×Bool)){n:Nat}:xX X n (m+1)=(ay4 X n).1 (xX X n m):=rfl
@[go_sem]def apr(X:Syntax->(List kj)->(List kj)->Option (jW×Bool))(n:Nat)(m:Nat):=vi (ay4 X n) (xX X n) m
def aQI(X:Syntax->(List kj)->(List kj)->Option (jW×Bool))(n:Nat):LB (avq X n) [0,1,0,0,1,0,1,1] aag:=mB
def QD(X:Syntax->(List kj)->(List kj)->Option (jW×Bool))(n:Nat):Nat->ak0:=ui ((aQI X n).1)
def afj(X:Syntax->(List kj)->(List kj)->Option (jW×Bool)){n:Nat}:QD X n (m+1)=(aQI X n).1 (QD X n m):=rfl
@[go_sem]def aps(X:Syntax->(List kj)->(List kj)->Option (jW×Bool))(n:Nat)(m:Nat):=vi (aQI X n) (QD X n) m
def Iw(X:Syntax->(List kj)->(List kj)->Option (jW×Bool))(n:Nat):SC3 (xW X n) (kZ Syntax.kv) (lA kW) (lA kW) 199:=mB
def nV:Nat->Syntax->(List kj)->(List kj)->Option (jW×Bool)
 |0,_,_,_=>none
 |n+1,a0,a1,a2=>(Iw (nV n) n).1 a0 a1 a2
def ak1:∀n:Nat,auZ gf 21 (kZ Syntax.kv) (lA kW) (lA kW) (Qr (kZ jW.kv) mw) (nV n)
 |0=>fun _ _ _ _ h=>(by cases h)
 |n+1=>by
  have avr:=ak1 n;exact aDK (Iw (nV n) n) (gd (jQ (Qs (avr)) (jQ (lw (aty n)) jT)) jU (e:=(am8 (aEE (fun a=>⟨(lA kW).nb 0 _,trivial⟩) (fun a r h=>(AJ n) a.1 r h)) ap6))) func21 ntmps21 results21
@[go_sem]def afk:ua:=⟨[],[],(zK::zA::zA::zK::zA::zK::lH (l7 (l7 (l7 (zA::zA::[]))))),[oA kW,oT jW.kv],none,none⟩
@[reducible] def WB(X:(List kj)->jW->Option (Tf×Unit))(n:Nat):kK (Tf×Unit):=nh gf f63 n (ao4 gf [.tmp 4] (uf (aQL true kW) sM) (rsA 0 (fun(b:Tf)=>b.1.length) F8) 1) (cl:=l6 [(63,am9 0 true 1 (Ah [0] (uf (aQL true kW) sM) (asA 0 (fun(b:Tf)=>b.1.length) (asT (kZ jW.kv) IJ)) (uf (aQL true kW) sM) (rsA 0 (fun(b:Tf)=>b.1.length) F8) (fun(b:Tf) a=>X b.1 a.1))),(120,nP (lA kW) mo mw (anH n))]) (qj:=oz [([0,1,0,1,1],afk)])
@[go_sem]abbrev afl(v0:Int)(r0:List kj)(o1:jW)(c0:Nat):jS:=⟨(.lR 0 c0::qA::qA::.ptr 1 0::qA::.int .i64 v0::lK (mm (mm (mm (qA::qA::[]))))),[.lR true 1 (mp kX r0),.cells (jW.cells o1)],1,[]⟩
abbrev afm:=Int->(List kj)->jW->Option (Tf×Unit)
abbrev arb(X:(List kj)->jW->Option (Tf×Unit))(n:Nat)(K:List Kt)(Z:afm):Prop:=∀v0 r0 o1 c0,c0=r0.length->run (WB X n) K (afl v0 r0 o1 c0)=Z v0 r0 o1
def EY(X:(List kj)->jW->Option (Tf×Unit))(n:Nat):LB (arb X n) [0,1,0,1,1] [.qg 0,.cut [1,1,1],.at [1,1,1]]:=mB
def Bx(X:(List kj)->jW->Option (Tf×Unit))(n:Nat):Nat->afm:=ui ((EY X n).1)
def YQ(X:(List kj)->jW->Option (Tf×Unit)){n:Nat}:Bx X n (m+1)=(EY X n).1 (Bx X n m):=rfl
@[go_sem]def al6(X:(List kj)->jW->Option (Tf×Unit))(n:Nat)(m:Nat):=vi (EY X n) (Bx X n) m
def WC(X:(List kj)->jW->Option (Tf×Unit))(n:Nat):{B:(List kj)->jW->Option (Tf×Unit) //∀(a0:(List kj))(a1:jW),run (WB X n) [.at []] (ini ((asA 0 (fun(b:Tf)=>b.1.length) (asT (kZ jW.kv) IJ)).enc (a0,()) (a1,())) 36 ((uf (aQL true kW) sM).enc (a0,())))=B a0 a1}:=mB
def xY:Nat->(List kj)->jW->Option (Tf×Unit)
 |0,_,_=>none
 |n+1,a0,a1=>(WC (xY n) n).1 a0 a1
def afn:∀(n:Nat)(a0:(List kj))(a1:jW)(r:(Tf×Unit)),xY n a0 a1=some r->FnG gf 63 ((asA 0 (fun(b:Tf)=>b.1.length) (asT (kZ jW.kv) IJ)).enc (a0,()) (a1,())) ((uf (aQL true kW) sM).enc (a0,())) (fun o H'=>o=.ret (sZ ((rsA 0 (fun(b:Tf)=>b.1.length) F8).enc r.1 r.2))/\H'=(uf (aQL true kW) sM).enc r.1)
 |0,_,_,_,h=>by cases h
 |n+1,a0,a1,r,h=>by
  have arc:=afn n;exact vX (M:=WB (xY n) n) ⟨(jQ (abg (pq (fun b a r h=>(arc) b.1 a.1 r h))) (jQ (lw (aBg n)) jT)),jU,pd _,pI _,rK,rL,sA,rX⟩ func63 rfl rfl (by simp only[go_sem,gk,gp,gh,gi,gq,gr,gv,gw,gx,gj,gu,gy]) ((uf (aQL true kW) sM).nb _ _) ntmps63 results63 (fun J hs=>Yi hs) (((WC (xY n) n).2 a0 a1).trans h)
open Go.Proofs
@[reducible] def Dh:kK Bool:=nh gf f10 n (l1 gf [.tmp 4] mw) (cl:=l6 [(39,nP (lA kW) (tyF 96) (lr .i64) (tE n))])
def rM:Ll (Dh n) (lA kW) (tyF 96) 9:=mB
def sC:=fu fun n=>(rM n).1
def Cs:∀n:Nat,uu gf 10 (lA kW) (tyF 96) mw (sC n):=yu fun n=>we (rM n) (gd (jQ (lw (Es n)) jT) jU) func10 ntmps10 results10
@[go_sem]def WD:ua:=⟨[],[],(zA::zK::zK::zA::zA::zK::lH (lH (l7 (l7 (zA::[]))))),[oT ld.kv],none,none⟩
@[reducible] def YR(X:ld->Int->Option Bool)(n:Nat):kK Bool:=nh gf f254 n (l1 gf [.tmp 4] mw) (cl:=l6 [(253,nq (kZ jW.kv) mw (Rg n)),(254,nP (kZ ld.kv) (lr .i64) mw X)]) (qj:=oz [([0,1,0,1,1],WD)])
@[go_sem]abbrev WE(v0 v1:Int)(o0:ld):jS:=⟨(qA::.int .i64 v0::.ptr 0 0::qA::qA::.int .i64 v1::lK (lK (mm (mm (qA::[]))))),[.cells (ld.cells o0)],0,[]⟩
abbrev WF:=Int->Int->ld->Option Bool
abbrev al7(X:ld->Int->Option Bool)(n:Nat)(K:List Kt)(Z:WF):Prop:=∀v0 v1 o0,run (YR X n) K (WE v0 v1 o0)=Z v0 v1 o0
def AX(X:ld->Int->Option Bool)(n:Nat):LB (al7 X n) [0,1,0,1,1] [.qg 0,.cut [1,1,1],.at [1,1,1]]:=mB
def AY(X:ld->Int->Option Bool)(n:Nat):Nat->WF:=ui ((AX X n).1)
def RI(X:ld->Int->Option Bool){n:Nat}:AY X n (m+1)=(AX X n).1 (AY X n m):=rfl
@[go_sem]def af5(X:ld->Int->Option Bool)(n:Nat)(m:Nat):=vi (AX X n) (AY X n) m
def Nl(X:ld->Int->Option Bool)(n:Nat):Ll (YR X n) (kZ ld.kv) (lr .i64) 47:=mB
def xe:Nat->ld->Int->Option Bool
 |0,_,_=>none
 |n+1,a0,a1=>(Nl (xe n) n).1 a0 a1
def WG:∀n:Nat,uu gf 254 (kZ ld.kv) (lr .i64) mw (xe n)
 |0=>fun _ _ _ h=>(by cases h)
 |n+1=>by
  have al8:=WG n;exact we (Nl (xe n) n) (gd (jQ (lB (ahR n)) (jQ (lw (al8)) jT)) jU) func254 ntmps254 results254
@[go_sem]def ak2:ua:=⟨[],[],(zA::zA::zK::zK::zA::zK::lH (lH (lH (l7 (zA::zA::zA::[]))))),[oT jW.kv,oT jW.kv],none,none⟩
@[reducible] def adZ(X:jW->jW->Option Bool)(n:Nat):kK Bool:=nh gf f22 n (l1 gf [.tmp 4] mw) (cl:=l6 [(62,nP (lA kA.row) (lA kA.row) mw (KD n))]) (cd:=Bp [(22,pR (nP (kZ jW.kv) (kZ jW.kv) mw X))]) (qj:=oz [([0,1,0,1,1],ak2)]) (uz:=l2 []) (uC:=l2 [])
@[go_sem]def ayb(X:jW->jW->Option Bool)(n:Nat):so (adZ X n) [0,0,0,1,0,0,1,0,1,1]=true:=jN
@[go_sem]abbrev ak3(v0:Int)(o0 o1:jW):jS:=⟨(qA::qA::.ptr 0 0::.ptr 1 0::qA::.int .i64 v0::lK (lK (lK (mm (qA::qA::qA::[]))))),[.cells (jW.cells o0),.cells (jW.cells o1)],0,[]⟩
abbrev ak4:=Int->jW->jW->Option Bool
abbrev avs(X:jW->jW->Option Bool)(n:Nat)(K:List Kt)(Z:ak4):Prop:=∀v0 o0 o1,run (adZ X n) K (ak3 v0 o0 o1)=Z v0 o0 o1
def aQJ(X:jW->jW->Option Bool)(n:Nat):LB (avs X n) [0,1,0,1,1] [.qg 0,.cut [1,1,1],.at [1,1,1]]:=mB
def Ka(X:jW->jW->Option Bool)(n:Nat):Nat->ak4:=ui ((aQJ X n).1)
def afo(X:jW->jW->Option Bool){n:Nat}:Ka X n (m+1)=(aQJ X n).1 (Ka X n m):=rfl
@[go_sem]def apt(X:jW->jW->Option Bool)(n:Nat)(m:Nat):=vi (aQJ X n) (Ka X n) m
def ad0(X:jW->jW->Option Bool)(n:Nat):Ll (adZ X n) (kZ jW.kv) (kZ jW.kv) 61:=mB
def Ca:Nat->jW->jW->Option Bool
 |0,_,_=>none
 |n+1,a0,a1=>(ad0 (Ca n) n).1 a0 a1
def QE:∀n:Nat,uu gf 22 (kZ jW.kv) (kZ jW.kv) mw (Ca n)
 |0=>fun _ _ _ h=>(by cases h)
 |n+1=>by
  have avt:=QE n;exact we (ad0 (Ca n) n) (gd (jQ (lw (al0 n)) jT) (lC (qk (avt)) jU)) func22 ntmps22 results22
@[go_sem]def afp:ua:=⟨[],[],(zA::zK::zA::zK::wv (lH (l7 (l7 (l7 []))))),[oT kz.kv],none,none⟩
@[reducible] def aii:kK Int:=nh gf f256 n (l1 gf [.tmp 2] (lr .i64)) (cl:=l6 [(288,nq (kZ kz.kv) mw (YD n))]) (qj:=oz [([0,1,0,1,1,1],afp)])
@[go_sem]abbrev afq(v0:Int)(o0:kz):jS:=⟨(qA::.ptr 0 0::qA::.int .i64 v0::wu (lK (mm (mm (mm []))))),[.cells (kz.cells o0)],0,[]⟩
abbrev afr:=Int->kz->Option Int
abbrev ard(K:List Kt)(Z:afr):Prop:=∀v0 o0,run (aii n) K (afq v0 o0)=Z v0 o0
def EZ:LB (ard n) [0,1,0,1,1,1] [.qg 0,.cut [1,1,1,1],.at [1,1,1,1]]:=mB
def By:Nat->afr:=ui ((EZ n).1)
def YS{n:Nat}:By n (m+1)=(EZ n).1 (By n m):=rfl
@[go_sem]def al9(m:Nat):=vi (EZ n) (By n) m
def WH:Jx (aii n) (kZ kz.kv) 96:=mB
def Vm:=fu fun n=>(WH n).1
def are:∀n:Nat,uj gf 256 (kZ kz.kv) (lr .i64) (Vm n):=ww fun n=>uU (WH n) (gd (jQ (lB (atC n)) jT) jU) func256 ntmps256 results256
@[go_sem]def WI:ua:=⟨[],[],(zT (lA kz.row)::l7 (zT (lA kW)::zK::lH (lH (l7 (zA::[]))))),[],none,none⟩
@[reducible] def Nn:kK Int:=nh gf f257 n (l1 gf [.tmp 4] (lr .i64)) (cl:=l6 [(24,nP (lA kz.row) mo (Qr (kZ Entry.kv) (lr .i64)) (KT n)),(65,nq (kZ kz.kv) (lA kW) (Ln n)),(162,nq mo mw (Wp n))]) (cd:=Bp [(64,pR (nP (lA kW) mo mw (VA n)))]) (qj:=oz [([0,1,0,1,1],WI)]) (uz:=l2 []) (uC:=l2 [])
@[go_sem]def anV:so (Nn n) [0,1,1,0,0,1,0,0,1,0,1,1]=true:=jN
@[go_sem]abbrev WJ(v0:List kz)(v1:List kj)(v2:Int):jS:=⟨(.kF false 23 (mp kz.cells v0)::mm (.kF false 1 (mp kX v1)::.int .i64 v2::lK (lK (mm (qA::[]))))),[],0,[]⟩
abbrev WK:=(List kz)->(List kj)->Int->Option Int
abbrev ama(K:List Kt)(Z:WK):Prop:=∀v0 v1 v2,run (Nn n) K (WJ v0 v1 v2)=Z v0 v1 v2
def AZ:LB (ama n) [0,1,0,1,1] [.qg 0,.cut [1,1,1],.at [1,1,1]]:=mB
def A2:Nat->WK:=ui ((AZ n).1)
def RJ{n:Nat}:A2 n (m+1)=(AZ n).1 (A2 n m):=rfl
@[go_sem]def af6(m:Nat):=vi (AZ n) (A2 n) m
def No:Ll (Nn n) (lA kz.row) (kZ kz.kv) 44:=mB
def KG:=fu fun n=>(No n).1
def amb:∀n:Nat,uu gf 257 (lA kz.row) (kZ kz.kv) (lr .i64) (KG n):=yu fun n=>we (No n) (gd (jQ (lw (Qz n)) (jQ (lB (V1 n)) (jQ (lB (akK n)) jT))) (lC (qk (adF n)) jU)) func257 ntmps257 results257
def aij:ua:=⟨[],[],(zA::zK::zK::zK::zK::zK::zK::l7 (l7 (zK::wv (lH (l7 (l7 (zA::zA::zA::[]))))))),[oT jW.kv],none,none⟩
def aik:ua:=⟨[],[],(zA::zK::zK::zK::zK::zK::zK::l7 (zA::zA::zK::wv (lH (l7 (l7 (l7 (zA::[]))))))),[oT jW.kv],none,none⟩
@[reducible] def QF(X:jW->Int->Int->Int->Int->Int->Option Int)(n:Nat):kK Int:=nh gf f100 n (l1 gf [.tmp 12] (lr .i64)) (cl:=l6 [(161,nq (kZ jW.kv) mw (P6 n)),(162,nq mo mw (Wp n)),(163,Zv (kZ kA.kv) (lr .i64) (lr .i64) (lr .i64) (Lz n))]) (cd:=Bp [(100,pR (aC1 (kZ jW.kv) (lr .i64) (lr .i64) (lr .i64) (lr .i64) (lr .i64) (lr .i64) X)),(117,pR (nP (lr .i64) (lr .i64) (lr .i64) (Yn n)))]) (qj:=oz [([0,1,0,1,1,1,1,1,1,1],aij),([0,1,0,1,1,1,1],aik)]) (uz:=l2 []) (uC:=l2 [])
def avu(X:jW->Int->Int->Int->Int->Int->Option Int)(n:Nat):so (QF X n) [0,0,0,1,0,0,1,0,1,1,1,1,1,1,1]=true:=jN
attribute [go_sem] avu aij aik
@[go_sem]abbrev ail(v0 v1 v2 v3 v4 v5:Int)(o0:jW):jS:=⟨(qA::.int .i64 v0::.int .i64 v1::.int .i64 v2::.int .i64 v3::.int .i64 v4::.ptr 0 0::mm (mm (.int .i64 v5::wu (lK (mm (mm (qA::qA::qA::[]))))))),[.cells (jW.cells o0)],0,[]⟩
abbrev Np:=Int->Int->Int->Int->Int->Int->jW->Option Int
abbrev atJ(X:jW->Int->Int->Int->Int->Int->Option Int)(n:Nat)(K:List Kt)(Z:Np):Prop:=∀v0 v1 v2 v3 v4 v5 o0,run (QF X n) K (ail v0 v1 v2 v3 v4 v5 o0)=Z v0 v1 v2 v3 v4 v5 o0
@[go_sem]abbrev aim(v0 v1 v2 v3 v4 v5:Int)(o0:jW):jS:=⟨(qA::.int .i64 v0::.int .i64 v1::.int .i64 v2::.int .i64 v3::.int .i64 v4::.ptr 0 0::mm (qA::qA::.int .i64 v5::wu (lK (mm (mm (mm (qA::[]))))))),[.cells (jW.cells o0)],0,[]⟩
abbrev atK(X:jW->Int->Int->Int->Int->Int->Option Int)(n:Nat)(K:List Kt)(Z:Np):Prop:=∀v0 v1 v2 v3 v4 v5 o0,run (QF X n) K (aim v0 v1 v2 v3 v4 v5 o0)=Z v0 v1 v2 v3 v4 v5 o0
def A3(X:jW->Int->Int->Int->Int->Int->Option Int)(n:Nat):LB (atJ X n) [0,1,0,1,1,1,1,1,1,1] zC:=mB
def wN(X:jW->Int->Int->Int->Int->Int->Option Int)(n:Nat):Nat->Np:=ui ((A3 X n).1)
def Ix(X:jW->Int->Int->Int->Int->Int->Option Int){n:Nat}:wN X n (m+1)=(A3 X n).1 (wN X n m):=rfl
@[go_sem]def anW(X:jW->Int->Int->Int->Int->Int->Option Int)(n:Nat)(m:Nat):=vi (A3 X n) (wN X n) m
def A4(X:jW->Int->Int->Int->Int->Int->Option Int)(n:Nat):LB (atK X n) [0,1,0,1,1,1,1] [.qg 0,.cut [1,1,1,1,1],.at [1,1,1,1,1]]:=mB
def wO(X:jW->Int->Int->Int->Int->Int->Option Int)(n:Nat):Nat->Np:=ui ((A4 X n).1)
def Iy(X:jW->Int->Int->Int->Int->Int->Option Int){n:Nat}:wO X n (m+1)=(A4 X n).1 (wO X n m):=rfl
@[go_sem]def anX(X:jW->Int->Int->Int->Int->Int->Option Int)(n:Nat)(m:Nat):=vi (A4 X n) (wO X n) m
def QG(X:jW->Int->Int->Int->Int->Int->Option Int)(n:Nat):SC6 (QF X n) (kZ jW.kv) (lr .i64) (lr .i64) (lr .i64) (lr .i64) (lr .i64) 107:=mB
def qw:Nat->jW->Int->Int->Int->Int->Int->Option Int
 |0,_,_,_,_,_,_=>none
 |n+1,a0,a1,a2,a3,a4,a5=>(QG (qw n) n).1 a0 a1 a2 a3 a4 a5
def ain:∀n:Nat,aOR gf 100 (kZ jW.kv) (lr .i64) (lr .i64) (lr .i64) (lr .i64) (lr .i64) (lr .i64) (qw n)
 |0=>fun _ _ _ _ _ _ _ h=>(by cases h)
 |n+1=>by
  have atL:=ain n;exact aP8 (QG (qw n) n) (gd (jQ (lB (avl n)) (jQ (lB (akK n)) (jQ (Qs (atF n)) jT))) (lC (aHy (atL)) (lC (qk (atn n)) jU))) func100 ntmps100 results100
open Go.Proofs
@[go_sem]def WL:ua:=⟨[],[],(zA::zA::zK::zK::zA::zA::zA::zK::lH (lH (lH (zA::zA::zA::[])))),[oT j6.kv,oT jW.kv],none,none⟩
@[reducible] def Nq(X:j6->jW->Option Int)(n:Nat):kK Int:=nh gf f306 n (l1 gf [.tmp 4] (lr .i64)) (cl:=l6 [(24,nP (lA kz.row) mo (Qr (kZ Entry.kv) (lr .i64)) (KT n)),(64,nP (lA kW) mo mw (VA n)),(66,Zv (kZ kz.kv) (lr .i64) mo (kZ Entry.kv) (Q1 n))]) (cd:=Bp [(306,pR (nP (kZ j6.kv) (kZ jW.kv) (lr .i64) X))]) (qj:=oz [([0,1,0,1,1],WL)]) (uz:=l2 []) (uC:=l2 [])
@[go_sem]def anY(X:j6->jW->Option Int)(n:Nat):so (Nq X n) [0,0,0,1,0,0,1,0,1,1]=true:=jN
@[go_sem]abbrev WM(v0:Int)(o0:j6)(o1:jW):jS:=⟨(qA::qA::.ptr 0 0::.ptr 1 0::qA::qA::qA::.int .i64 v0::lK (lK (lK (qA::qA::qA::[])))),[.cells (j6.cells o0),.cells (jW.cells o1)],0,[]⟩
abbrev WN:=Int->j6->jW->Option Int
abbrev amc(X:j6->jW->Option Int)(n:Nat)(K:List Kt)(Z:WN):Prop:=∀v0 o0 o1,run (Nq X n) K (WM v0 o0 o1)=Z v0 o0 o1
def A5(X:j6->jW->Option Int)(n:Nat):LB (amc X n) [0,1,0,1,1] [.qg 0,.cut [1,1,1],.at [1,1,1]]:=mB
def xF(X:j6->jW->Option Int)(n:Nat):Nat->WN:=ui ((A5 X n).1)
def RL(X:j6->jW->Option Int){n:Nat}:xF X n (m+1)=(A5 X n).1 (xF X n m):=rfl
@[go_sem]def af7(X:j6->jW->Option Int)(n:Nat)(m:Nat):=vi (A5 X n) (xF X n) m
def Nr(X:j6->jW->Option Int)(n:Nat):Ll (Nq X n) (kZ j6.kv) (kZ jW.kv) 59:=mB
def ve:Nat->j6->jW->Option Int
 |0,_,_=>none
 |n+1,a0,a1=>(Nr (ve n) n).1 a0 a1
def WO:∀n:Nat,uu gf 306 (kZ j6.kv) (kZ jW.kv) (lr .i64) (ve n)
 |0=>fun _ _ _ h=>(by cases h)
 |n+1=>by
  have amd:=WO n;exact we (Nr (ve n) n) (gd (jQ (lw (Qz n)) (jQ (lw (adF n)) (jQ (Qs (ahq n)) jT))) (lC (qk (amd)) jU)) func306 ntmps306 results306
@[reducible] def GG:kK Bool:=nh gf f98 n (l1 gf [.tmp 4] mw) (cl:=l6 [(160,nP (lA kA.row) (tyF 99) (lr .i64) (vB n))])
def tF:Ll (GG n) (lA kA.row) (tyF 99) 9:=mB
def rj:=fu fun n=>(tF n).1
def FG:∀n:Nat,uu gf 98 (lA kA.row) (tyF 99) mw (rj n):=yu fun n=>we (tF n) (gd (jQ (lw (Is n)) jT) jU) func98 ntmps98 results98
@[go_sem]def Ns:ua:=⟨[],[],(zT (uL j3.kv)::l7 (zK::lH (l7 (l7 (l7 []))))),[],none,none⟩
@[reducible] def Pb:kK kj:=nh gf f108 n (l1 gf [.tmp 4] mo) (cl:=l6 [(79,nP (lA kW) mo mw (oG n)),(170,nq (lr .i64) mo (strconv_Itoa n)),(171,nP (lA kW) mo mw (uX n))]) (qj:=oz [([0,0,1,1],Ns)])
@[go_sem]abbrev Nt(v0:j3)(v1:kj):jS:=⟨(.pp (j3.cells v0)::mm (.str (sb v1)::lK (mm (mm (mm []))))),[],0,[]⟩
abbrev Nu:=j3->kj->Option kj
abbrev ad1(K:List Kt)(Z:Nu):Prop:=∀v0 v1,run (Pb n) K (Nt v0 v1)=Z v0 v1
def wP:LB (ad1 n) [0,0,1,1] [.qg 0,.cut [1,1,1],.at [1,1,1]]:=mB
def sD:Nat->Nu:=ui ((wP n).1)
def Kb{n:Nat}:sD n (m+1)=(wP n).1 (sD n m):=rfl
@[go_sem]def XQ(m:Nat):=vi (wP n) (sD n) m
def FH:Ll (Pb n) (uL j3.kv) (lr .i64) 34:=mB
def zk:=fu fun n=>(FH n).1
def Nv:∀n:Nat,uu gf 108 (uL j3.kv) (lr .i64) mo (zk n):=yu fun n=>we (FH n) (gd (jQ (lw (pS n)) (jQ (lB (Kx n)) (jQ (lw (Gi n)) jT))) jU) func108 ntmps108 results108
@[go_sem]abbrev Iz(F:Option ((Ta×Unit)×Unit))(b:Unit)(a:Unit):=F
@[go_sem]def Qf(F:Option ((Ta×Unit)×Unit)):=GR [] Bn kJ (tz ogM Bn) (aQP 0 kJ) (Iz F)
@[reducible] def ab1:kK ((Ta×Unit)×Unit):=nh gf f199 n (w9 gf [.tmp 0] [.arg 0 []] [] 0 (tz ogM Bn) (aQP 0 kJ)) (cl:=l6 [(241,nq mo (alE 274 (uL cS)) (Yq n)),(274,aRk (Ux n))]) (js:=aFV [([0,1,0,1,1],[])])
@[go_sem]def ame:lkM (ab1 n) [0,1,0,1,1]=nY:=rfl
attribute [go_sem] zy
def ab2:SX (ab1 n) kJ Bn 9 Iz:=mC
def HE:=fu fun n=>(ab2 n).1
def YT:∀n:Nat,zt gf 199 kJ Bn (tz ogM Bn) (aQP 0 kJ) (Iz (HE n)):=VX fun n=>GC (ab2 n) (gd (jQ (lB (ahE n)) (jQ (mV (adV n)) jT)) jU) func199 ntmps199 results199
@[go_sem]abbrev Gs(F:jW->Int->Bool->Option (Tg×Unit))(b:TS)(a:(jW×Unit)):=F a.1 b.2.1.1 b.2.2.1.1
@[go_sem]def YU(F:jW->Int->Bool->Option (Tg×Unit)):=GR [.arg 0 [],.vA 0 3 [],.vA 0 4 []] lu (aQP 0 (lW (uL jW.kv) kJ)) nf kJ (Gs F)
@[reducible] def anZ:kK (Tg×Unit):=nh gf f164 n (w9 gf [] [] [0,1,2] 3 nf kJ) (cl:=l6 [(165,aAd (kZ (cA kn.kv 5 13)) (P0 n)),(166,Jd (rU n))]) (cut:=Mh [([1,1,1,1],[4])])
attribute [go_sem] xS
def Nw:SX (anZ n) (aQP 0 (lW (uL jW.kv) kJ)) lu 10 Gs:=mC
def KH:=fu fun n=>(Nw n).1
def amf:∀n:Nat,zt gf 164 (aQP 0 (lW (uL jW.kv) kJ)) lu nf kJ (Gs (KH n)):=VX fun n=>GC (Nw n) (gd (jQ (am5 (anB n)) (jQ (mV (Rm n)) jT)) jU) func164 ntmps164 results164
@[reducible] def zI:kK Bool:=nh gf f172 n (l1 gf [.tmp 4] mw) (cl:=l6 [(225,nP (lA kp.row) (tyF 173) (lr .i64) (qS n))])
def pZ:Ll (zI n) (lA kp.row) (tyF 173) 9:=mB
def oH:=fu fun n=>(pZ n).1
def zl:∀n:Nat,uu gf 172 (lA kp.row) (tyF 173) mw (oH n):=yu fun n=>we (pZ n) (gd (jQ (lw (AT n)) jT) jU) func172 ntmps172 results172
open Go.Proofs
@[go_sem]def ux:=(lX 0 (lW (kZ jR.kv) (lW (lr .i64) (lW (kZ Syntax.kv) kJ))))
@[go_sem]abbrev uY(F:jR->Int->Syntax->Tb->Option T10)(b:Tv)(a:(jR×(Int×(Syntax×Unit)))):=F a.1 a.2.1 a.2.2.1 b.2.1
@[go_sem]def Cb(F:jR->Int->Syntax->Tb->Option T10):=GR [.arg 0 [],.vA 0 0 []] kM ux kM (lW mw kJ) (uY F)
@[go_sem]abbrev tC(F:Syntax->Tb->Option TN)(b:Tv)(a:(Syntax×Unit)):=F a.1 b.2.1
@[go_sem]def Vn(F:Syntax->Tb->Option TN):=GR [.arg 0 [],.vA 0 0 []] kM (lX 0 (lW (kZ Syntax.kv) kJ)) kM (lW (lr .i64) kJ) (tC F)
structure nD where
 p4:jR->Int->Syntax->Tb->Option T10
 pT:Syntax->Tb->Option TN
open Go.Proofs
@[reducible] def Cc(X:nD)(n:Nat):kK T10:=nh gf f298 n (w9 gf [.tmp 8] [] [0,1] 2 kM (lW mw kJ)) (cl:=l6 [(297,wL (xV n))]) (cd:=Bp [(78,pR (nq (kZ jR.kv) mw (Fp n))),(140,pR (nq (kZ jR.kv) mw (C8 n))),(285,pR (nP (kZ jR.kv) (lr .i64) (lr .i64) (alN n)))]) (co:=aQQ [(316,IK [.arg 0 [],.vA 0 0 []] kM (lX 0 (lW (kZ Syntax.kv) kJ)) kM (lW (lr .i64) kJ) kM (lW (lr .i64) kJ) (fun(b:Tv)(a:(Syntax×Unit))=>(X.pT a.1 b.2.1).map fun r=>(PR.ok r:PR TN TN)))]) (uz:=l2 [316]) (uC:=l2 [])
@[go_sem]def aah(X:nD)(n:Nat):anm (Cc X n) [0,0,1,1] [0,1,1,1]:=⟨jN,jN⟩
@[go_sem]def aai(X:nD)(n:Nat):Mt (Cc X n) [0,1,1,1] 4 5=true:=jN
def Cd(X:nD)(n:Nat):SX (Cc X n) ux kM 47 uY:=mC2
open Go.Proofs
@[go_sem]def E0:ua:=⟨[],[],(zK::zA::zA::zK::zA::zK::lH (lH (l7 (l7 (zA::[]))))),[oC [zK],oM (kZ jR.kv),oT Syntax.kv],none,none⟩
@[reducible] def Gt(X:nD)(n:Nat):kK TN:=nh gf f316 n (w9 gf [.tmp 4] [] [0,1] 2 kM (lW (lr .i64) kJ)) (cl:=l6 [(140,nq (kZ jR.kv) mw (C8 n)),(285,nP (kZ jR.kv) (lr .i64) (lr .i64) (alN n)),(297,wL (xV n)),(298,Cb X.p4)]) (qj:=oz [([0,1,1],E0)])
@[go_sem]abbrev E3(v0:Int)(r1:List (kj×jR))(o2:Syntax):jS:=⟨(.ptr 0 0::qA::qA::.ptr 2 0::qA::.int .i64 v0::lK (lK (mm (mm (qA::[]))))),[.cells [.map 1],.map (mp (PX (kZ jR.kv)) r1),.cells (Syntax.cells o2)],2,[]⟩
abbrev E4:=Int->Tb->Syntax->Option TN
abbrev SF(X:nD)(n:Nat)(K:List Kt)(Z:E4):Prop:=∀v0 r1 o2,run (Gt X n) K (E3 v0 r1 o2)=Z v0 r1 o2
def yO(X:nD)(n:Nat):LB (SF X n) [0,1,1] [.qg 0]:=mB
def yP(X:nD)(n:Nat):Nat->E4:=ui ((yO X n).1)
def apu(X:nD){n:Nat}:yP X n (m+1)=(yO X n).1 (yP X n m):=rfl
@[go_sem]def OE(X:nD)(n:Nat)(m:Nat):=vi (yO X n) (yP X n) m
def zJ(X:nD)(n:Nat):SX (Gt X n) (lX 0 (lW (kZ Syntax.kv) kJ)) kM 47 tC:=mC
open Go.Proofs
def ng:Nat->nD
 |0=>⟨Fu.z,Fu.z⟩
 |n+1=>⟨(Cd (ng n) n).1,(zJ (ng n) n).1⟩
def p4:jR->Int->Syntax->Tb->Option T10:=(ng n).p4
def avv{n:Nat}:p4 (n+1)=(Cd (ng n) n).1:=rfl
def pT:Syntax->Tb->Option TN:=(ng n).pT
def arS{n:Nat}:pT (n+1)=(zJ (ng n) n).1:=rfl
def auq{n:Nat}:(ng n).p4=p4 n/\(ng n).pT=pT n:=⟨rfl,rfl⟩
def A6:∀n:Nat,zt gf 298 ux kM kM (lW mw kJ) (uY (ng n).p4)/\zt gf 316 (lX 0 (lW (kZ Syntax.kv) kJ)) kM kM (lW (lr .i64) kJ) (tC (ng n).pT)
 |0=>⟨fun _ _ _ h=>(by cases h),fun _ _ _ h=>(by cases h)⟩
 |n+1=>by
  obtain⟨XR,SH⟩:=A6 n
  exact⟨GC (Cd (ng n) n) (gd (jQ (mV (zH n)) jT) (lC (nu (C7 n)) (lC (nu (BG n)) (lC (qk (Iu n)) jU))) (c:=(nQ (as1 (SH)) tP))) func298 ntmps298 results298,
   GC (zJ (ng n) n) (gd (jQ (lB (BG n)) (jQ (lw (Iu n)) (jQ (mV (zH n)) (jQ (mV (XR)) jT)))) jU) func316 ntmps316 results316⟩
def XS:zt gf 298 ux kM kM (lW mw kJ) (uY (p4 n)):=(A6 n).1
def arf:zt gf 316 (lX 0 (lW (kZ Syntax.kv) kJ)) kM kM (lW (lr .i64) kJ) (tC (pT n)):=(A6 n).2
open Go.Proofs
@[reducible] def KV:kK T15:=nh gf f263 n (ao4 gf [.tmp 3] (uf (Ax cS) sM) (VQ mw F8) 1) (cd:=Bp [(79,pR (nP (lA kW) mo mw (oG n))),(264,pR (nq (kZ kz.kv) (lA kW) (KA n)))]) (uz:=l2 []) (uC:=l2 [])
@[go_sem]def amg:so (KV n) [0,1]=true:=jN
def KW:{B:kz->kj->Option T15 //∀(a0:kz)(a1:kj),run (KV n) [.at []] (ini ((asT (kZ kz.kv) (XA 0 IJ)).enc (a1,()) (a0,())) 8 ((uf (Ax cS) sM).enc (a1,())))=B a0 a1}:=mB
def IA:=fu fun n=>(KW n).1
def aj6:∀(n:Nat)(a0:kz)(a1:kj)(r:T15),IA n a0 a1=some r->FnG gf 263 ((asT (kZ kz.kv) (XA 0 IJ)).enc (a1,()) (a0,())) ((uf (Ax cS) sM).enc (a1,())) (fun o H'=>o=.ret (sZ ((VQ mw F8).enc r.1 r.2))/\H'=(uf (Ax cS) sM).enc r.1)
 |0,_,_,_,h=>by cases h
 |n+1,a0,a1,r,h=>by
  exact vX (M:=KV n) ⟨jT,(lC (qk (pS n)) (lC (nu (alW n)) jU)),pd _,pI _,rK,rL,sA,rX⟩ func263 rfl rfl (by simp only[go_sem,gk,gp,gh,gi,gq,gr,gv,gw,gx,gj,gu,gy]) ((uf (Ax cS) sM).nb _ _) ntmps263 results263 (fun J hs=>Yi hs) (((KW n).2 a0 a1).trans h)
@[go_sem]abbrev Nx(F:jW->Ta->(List kj)->Option (Ti×Unit))(b:T11)(a:(jW×Unit)):=F a.1 b.2.2.2.1 b.2.2.2.2.1
@[go_sem]def aio(F:jW->Ta->(List kj)->Option (Ti×Unit)):=GR [.arg 0 [],.vA 0 3 [],.vA 0 4 [],.vA 1 0 [],.vA 2 0 []] lg (aQP 0 (lW (uL jW.kv) kJ)) mJ kJ (Nx F)
@[reducible] def atM:kK (Ti×Unit):=nh gf f164 n (w9 gf [] [] [0,1,2,3,4] 5 mJ kJ) (cl:=l6 [(165,aAd (kZ (cA kn.kv 5 13)) (P0 n)),(166,P7 (sQ n))]) (cut:=Mh [([1,1,1,1],[6])])
attribute [go_sem] wD
def WP:SX (atM n) (aQP 0 (lW (uL jW.kv) kJ)) lg 10 Nx:=mC
def Vo:=fu fun n=>(WP n).1
def arh:∀n:Nat,zt gf 164 (aQP 0 (lW (uL jW.kv) kJ)) lg mJ kJ (Nx (Vo n)):=VX fun n=>GC (WP n) (gd (jQ (am5 (anB n)) (jQ (mV (YI n)) jT)) jU) func164 ntmps164 results164
@[go_sem]def UD:ua:=⟨[],[],(zA::zK::lH (lH (l7 (l7 (zA::zA::zA::zK::l7 (l7 (zA::[]))))))),[oK],none,none⟩
@[go_sem]def UE:ua:=⟨[],[],(zK::l7 (zA::zK::zA::zK::lH (lH (l7 (l7 (l7 (zA::zA::[]))))))),[oC [zA]],none,none⟩
@[reducible] def KX:kK Int:=nh gf f242 n (l1 gf [.tmp 4] (lr .i64)) (cl:=l6 [(276,nP mo (lr .i32) (lr .i64) (Ni n)),(277,nq (lr .i64) mw (strings_shouldUseASCIISet n))]) (qj:=oz [([0,1,0,1,1,1,1],UD),([0,1,0,0,1,1,0,1,0,1,1,1],UE)])
abbrev UF(v0 iv0:kj)(ip0:Nat):jS:=⟨(qA::.str (sb v0)::lK (lK (mm (mm (qA::qA::qA::.ptr 0 0::mm (mm (qA::[]))))))),[.iter (sb iv0) ip0],0,[]⟩
abbrev UG:=kj->kj->Nat->Option Int
abbrev aj7(K:List Kt)(Z:UG):Prop:=∀v0 iv0 ip0,run (KX n) K (UF v0 iv0 ip0)=Z v0 iv0 ip0
abbrev UH(v0:kj)(v1:Int):jS:=⟨(.str (sb v0)::mm (qA::.ptr 0 0::qA::.int .i64 v1::lK (lK (mm (mm (mm (qA::qA::[]))))))),[.cells [qA]],0,[]⟩
abbrev UI:List Kt:=[.qg 0,.cut [1,0,1,1,0,1,0,1,1,1],.at [1,0,1,1,0,1,0,1,1,1],.cut [1,1,1,1],.at [1,1,1,1]]
abbrev UJ:=kj->Int->Option Int
abbrev aj8(K:List Kt)(Z:UJ):Prop:=∀v0 v1,run (KX n) K (UH v0 v1)=Z v0 v1
attribute [go_sem] UF UH UI
def Jg:LB (aj7 n) [0,1,0,1,1,1,1] [.qg 2,.cut [1,1,1,1,1],.at [1,1,1,1,1]]:=mB
def Jh:Nat->UG:=ui ((Jg n).1)
def ayQ{n:Nat}:Jh n (m+1)=(Jg n).1 (Jh n m):=rfl
@[go_sem]def ad2(m:Nat):=vi (Jg n) (Jh n) m
def Ji:LB (aj8 n) [0,1,0,0,1,1,0,1,0,1,1,1] UI:=mB
def Jj:Nat->UJ:=ui ((Ji n).1)
def ayR{n:Nat}:Jj n (m+1)=(Ji n).1 (Jj n m):=rfl
@[go_sem]def ad3(m:Nat):=vi (Ji n) (Jj n) m
def WQ:{B:kj->kj->Option Int //∀(a0:kj)(a1:kj),run (KX n) [.at []] (ini [mo.enc a0,mo.enc a1] 55)=B a0 a1}:=mB
def strings_IndexAny:=fu fun n=>(WQ n).1
def UK:∀(n:Nat)(a0:kj)(a1:kj)(r:Int),strings_IndexAny n a0 a1=some r->I5 gf 242 [mo.enc a0,mo.enc a1] (fun v=>v=(lr .i64).enc r)
 |0,_,_,_,h=>by cases h
 |n+1,a0,a1,r,h=>by
  exact okC (((WQ n).2 a0 a1).trans h) (gd (jQ (lw (RB n)) (jQ (lB (SB n)) jT)) jU) func242 ⟨mo.nb 0 _,mo.nb 0 _,trivial⟩ ntmps242 results242
@[reducible] def ad4:kK Bool:=nh gf f243 n (l1 gf [.tmp 4] mw) (cl:=l6 [(276,nP mo (lr .i32) (lr .i64) (Ni n))])
def Ny:Ll (ad4 n) mo (lr .i32) 9:=mB
def RM:=fu fun n=>(Ny n).1
def ab3:∀n:Nat,uu gf 243 mo (lr .i32) mw (RM n):=yu fun n=>we (Ny n) (gd (jQ (lw (RB n)) jT) jU) func243 ntmps243 results243
@[go_sem]def FI:ua:=⟨[],[],(zK::l7 (zK::wv (lH (l7 (l7 (l7 [])))))),[oC [zK,zK,zK,zK,zK],oK,oK,oK],none,none⟩
@[reducible] def HF:kK TG:=nh gf f201 n (w9 gf [.tmp 2,.tmp 3,.tmp 4] [] [0,1,2,3] 4 k8 oW) (cl:=l6 [(193,nq (lr .u8) (lr .i64) (Lr n)),(194,nq (lr .u8) mw (Vi n))]) (qj:=oz [([0,0,0,0,0,0,1,1],FI),([0,0,1,1],FI)]) (uz:=l2 []) (uC:=l2 [])
@[go_sem]def aip:anm (HF n) [0,0,1,0,0,1,1,1,1] [0,1,1,1]:=⟨jN,jN⟩
@[go_sem]abbrev Pc(v0:Int)(v1:kj)(v2:Int)(r1 r2 r3:List (kj×Bool)):jS:=⟨(.ptr 0 0::mm (.int .i64 v0::wu (lK (mm (mm (mm [])))))),[.cells [.str (sb v1),.int .i64 v2,.map 1,.map 2,.map 3],.map (mp GI r1),.map (mp GI r2),.map (mp GI r3)],4,[]⟩
@[go_sem]abbrev Pd(m2:Nat):List Kt:=[.qg 2,.cut [1,0,0,0,0,1,1],.at [1,0,0,0,0,1,1],.qg 1,.lp m2 [0,0,1,1],.qg 0,.cut [1,1,1],.at [1,1,1]]
abbrev Bg(K:List Kt)(Z:pJ):Prop:=∀v0 v1 v2 r1 r2 r3,run (HF n) K (Pc v0 v1 v2 r1 r2 r3)=Z v0 v1 v2 r1 r2 r3
def FJ:LB2 (Bg n) [0,0,1,1] [.qg 0,.cut [1,1,1],.at [1,1,1]] (Bg n) [0,0,0,0,0,0,1,1] Pd:=mB
def FK(X2:pJ):Nat->pJ:=ui ((FJ n).1 X2)
def awA{n:Nat}(X2:pJ):FK n X2 (m+1)=(FJ n).1 X2 (FK n X2 m):=rfl
def aaj{m2:Nat}{X2}(h2:Bg n (.lq m2 [0,0,1,1]::[.qg 0,.cut [1,1,1],.at [1,1,1]]) X2)(m:Nat):=aDI (FJ n) h2 (FK n X2) m
def FL:LB (Bg n) [0,0,1,1] [.qg 0,.cut [1,1,1],.at [1,1,1]]:=by
 apply gA;intro m X0 ih v0 v1 v2 r1 r2 r3;simp (config:={maxSteps:=100000000}) only[go_sem,gk,gp,gh,gi,gq,gr,gv,gw,gx,gj,gu,gy,f201,gz,mixed,aaj n ih,ih];exact rfl
def FM:Nat->pJ:=ui ((FL n).1)
def awB{n:Nat}:FM n (m+1)=(FL n).1 (FM n m):=rfl
@[go_sem]def aak(m:Nat):=vi (FL n) (FM n) m
def RN:SX (HF n) (lX 0 kJ) k8 98 pu:=mC
def WR:=fu fun n=>(RN n).1
def af8:∀n:Nat,zt gf 201 (lX 0 kJ) k8 k8 oW (pu (WR n)):=VX fun n=>GC (RN n) (gd (jQ (lB (Hh n)) (jQ (lB (SE n)) jT)) jU) func201 ntmps201 results201
@[go_sem]def LI:ua:=⟨[],[],(zK::l7 (zK::wv (l7 (l7 (l7 (zA::zA::[])))))),[oC [zK,zK,zK,zK,zK],oK,oK,oK],none,none⟩
@[reducible] def Ey:kK TG:=nh gf f202 n (w9 gf [.tmp 2,.tmp 3,.tmp 4] [] [0,1,2,3] 4 k8 oW) (cl:=l6 [(193,nq (lr .u8) (lr .i64) (Lr n)),(194,nq (lr .u8) mw (Vi n))]) (qj:=oz [([0,0,1,1],LI)]) (uz:=l2 []) (uC:=l2 [])
@[go_sem]def ad5:aIu (Ey n) [0,0,1,0,0,1,1,1] [0,0,1,1,1,0,0,1,1,1] [0,1,1,0,0,1,1,1]:=⟨jN,jN,jN⟩
@[go_sem]abbrev LJ(v0:Int)(v1:kj)(v2:Int)(r1 r2 r3:List (kj×Bool)):jS:=⟨(.ptr 0 0::mm (.int .i64 v0::wu (mm (mm (mm (qA::qA::[])))))),[.cells [.str (sb v1),.int .i64 v2,.map 1,.map 2,.map 3],.map (mp GI r1),.map (mp GI r2),.map (mp GI r3)],4,[]⟩
abbrev ab4(K:List Kt)(Z:pJ):Prop:=∀v0 v1 v2 r1 r2 r3,run (Ey n) K (LJ v0 v1 v2 r1 r2 r3)=Z v0 v1 v2 r1 r2 r3
def Di:LB (ab4 n) [0,0,1,1] [.qg 0,.cut [1,1,1],.at [1,1,1]]:=mB
def Dj:Nat->pJ:=ui ((Di n).1)
def aur{n:Nat}:Dj n (m+1)=(Di n).1 (Dj n m):=rfl
@[go_sem]def WS(m:Nat):=vi (Di n) (Dj n) m
def Nz:SX (Ey n) (lX 0 kJ) k8 84 pu:=mC
def RO:=fu fun n=>(Nz n).1
def ab5:∀n:Nat,zt gf 202 (lX 0 kJ) k8 k8 oW (pu (RO n)):=VX fun n=>GC (Nz n) (gd (jQ (lB (Hh n)) (jQ (lB (SE n)) jT)) jU) func202 ntmps202 results202
open Go.Proofs
@[go_sem]def qx:=(lW (kZ Syntax.kv) (lW (lr .i64) kJ))
@[go_sem]abbrev qT(F:Int->(List Syntax)->Int->Int->Tb->Tb->Ta->Option Tq)(b:Tc)(a:(Int×Unit)):=F a.1 b.1.1 b.1.2.1 b.2.1.1 b.2.2.1 b.2.2.2.1 b.2.2.2.2.1
@[go_sem]def zM(F:Int->(List Syntax)->Int->Int->Tb->Tb->Ta->Option Tq):=xu true [.arg 0 [],.vA 0 0 [],.vA 1 0 [],.vA 1 1 [],.vA 1 2 []] kq (lX 0 (lW (lr .i64) kJ)) kq qx kq (lW (ZA 312 ag2) kJ) (qT F)
@[go_sem]def tK:=(lX 0 (lW (kZ jR.kv) (lW (lr .i64) (lW (aMJ Syntax.row) (lW (lr .i64) kJ)))))
@[go_sem]abbrev um(F:jR->Int->(List Syntax)->Int->(List Syntax)->Int->Int->Tb->Tb->Ta->Option Tu)(b:Tc)(a:(jR×(Int×((List Syntax)×(Int×Unit))))):=F a.1 a.2.1 a.2.2.1 a.2.2.2.1 b.1.1 b.1.2.1 b.2.1.1 b.2.2.1 b.2.2.2.1 b.2.2.2.2.1
@[go_sem]def Ez(F:jR->Int->(List Syntax)->Int->(List Syntax)->Int->Int->Tb->Tb->Ta->Option Tu):=xu true [.arg 0 [],.vA 0 0 [],.vA 1 0 [],.vA 1 1 [],.vA 1 2 []] kq tK kq (lW (kZ Syntax.kv) kJ) kq (lW (ZA 312 ag2) kJ) (um F)
structure kG where
 qU:Int->(List Syntax)->Int->Int->Tb->Tb->Ta->Option Tq
 qy:Int->(List Syntax)->Int->Int->Tb->Tb->Ta->Option Tq
 qb:jR->Int->(List Syntax)->Int->(List Syntax)->Int->Int->Tb->Tb->Ta->Option Tu
open Go.Proofs
@[go_sem]def LK:ua:=⟨[],[],(zK::zK::zA::zA::zK::zA::zK::zK::lH (lH (lH (l7 (zA::zA::zA::[]))))),[oC [zK,zT (lA Syntax.row),zK],oC [zK,zK,zK,zK],oM (kZ jR.kv),oM (kZ jR.kv),oK,oK,oT Syntax.kv],none,none⟩
@[reducible] def NA(X:kG)(n:Nat):kK Tq:=nh gf f252 n (qL gf [.cell 4 37,.tmp 5] [] [0,1,2,3,4] 5 kq qx) (cl:=l6 [(284,B5 (Ep n)),(285,nP (kZ jR.kv) (lr .i64) (lr .i64) (alN n))]) (qj:=oz [([0,1,1],LK)]) (rk:=qM [] [0,1,2,3,4] 5 kq (lW (ZA 312 ag2) kJ)) (cp:=Az [(283,zM X.qy),(286,Ez X.qb)]) (wx:=l2 [283,286])
@[go_sem]abbrev LL(v0 v1:Int)(v2:List Syntax)(v3 v4:Int)(r2 r3:List (kj×jR))(r4:List (kj×Bool))(o6:Syntax):jS:=⟨(.ptr 0 0::.int .i64 v0::qA::qA::.ptr 5 0::qA::.ptr 6 0::.int .i64 v1::lK (lK (lK (mm (qA::qA::qA::[]))))),[.cells [.ptr 1 0,.kF false 8 (mp Syntax.cells v2),.int .i64 v3],.cells [.map 2,.map 3,.map 4,.int .i64 v4],.map (mp (PX (kZ jR.kv)) r2),.map (mp (PX (kZ jR.kv)) r3),.map (mp GI r4),.cells [.int .i64 0,.str (sb []),.int .i64 0,.kF true 0 [],.kF true 0 [],.kF true 0 [],.int .i64 0,.int .i64 0],.cells (Syntax.cells o6)],5,[]⟩
abbrev LM:=Int->Int->(List Syntax)->Int->Int->Tb->Tb->Ta->Syntax->Option Tq
abbrev ab6(X:kG)(n:Nat)(K:List Kt)(Z:LM):Prop:=∀v0 v1 v2 v3 v4 r2 r3 r4 o6,run (NA X n) K (LL v0 v1 v2 v3 v4 r2 r3 r4 o6)=Z v0 v1 v2 v3 v4 r2 r3 r4 o6
def Dk(X:kG)(n:Nat):LB (ab6 X n) [0,1,1] [.qg 0]:=mB2
def Dl(X:kG)(n:Nat):Nat->LM:=ui ((Dk X n).1)
def aus(X:kG){n:Nat}:Dl X n (m+1)=(Dk X n).1 (Dl X n m):=rfl
@[go_sem]def WT(X:kG)(n:Nat)(m:Nat):=vi (Dk X n) (Dl X n) m
def EA(X:kG)(n:Nat):SX (NA X n) (lX 0 (lW (lr .i64) kJ)) kq 63 qT:=mC2
open Go.Proofs
@[reducible] def mM(X:kG)(n:Nat):kK Tq:=nh gf f283 n (qL gf [.cell 4 37,.tmp 5] [] [0,1,2,3,4] 5 kq qx) (cl:=l6 [(140,nq (kZ jR.kv) mw (C8 n))]) (rk:=qM [] [0,1,2,3,4] 5 kq (lW (ZA 312 ag2) kJ)) (co:=aQQ [(286,IK [.arg 0 [],.vA 0 0 [],.vA 1 0 [],.vA 1 1 [],.vA 1 2 []] kq tK kq (lW (kZ Syntax.kv) kJ) kq (lW (ZA 312 ag2) kJ) (um X.qb))]) (cp:=Az [(286,Ez X.qb)]) (wx:=l2 [286]) (uz:=l2 [286]) (uC:=l2 [])
def XT(X:kG)(n:Nat):aF9 (mM X n) [0,0,1] [0,0,1,1,1,0,0,1,1,1,1,1] [0,1,1] [0,1,1,1,1]:=⟨jN,jN,jN,jN⟩
def XU(X:kG)(n:Nat):xR (mM X n) [0,0,1,1,1,0,0,1,1,1,1,1] 1 4 3 4 1 7 3 7/\Mt (mM X n) [0,0,1,1,1,0,0,1,1,1,1,1] 4 7=true/\xR (mM X n) [0,1,1] 3 11 7 11 8 11 9 11/\Mt (mM X n) [0,1,1] 10 11=true/\xR (mM X n) [0,1,1,1,1] 3 14 6 14 8 14 9 14/\Mt (mM X n) [0,1,1,1,1] 13 14=true:=⟨⟨jN,jN,jN,jN⟩,jN,⟨jN,jN,jN,jN⟩,jN,⟨jN,jN,jN,jN⟩,jN⟩
def XV(X:kG)(n:Nat):OD (mM X n) [0,0,1,1,1,0,0,1,1,1,1,1] 4 5=false/\OD (mM X n) [0,0,1,1,1,0,0,1,1,1,1,1] 4 6=false/\OD (mM X n) [0,0,1,1,1,0,0,1,1,1,1,1] 4 7=true/\OD (mM X n) [0,0,1,1,1,0,0,1,1,1,1,1] 4 8=true/\Zt (mM X n) [0,0,1,1,1,0,0,1,1,1,1,1] 4=false:=⟨jN,jN,jN,jN,jN⟩
attribute [go_sem] XT XU XV
def Bs(X:kG)(n:Nat):SX (mM X n) (lX 0 (lW (lr .i64) kJ)) kq 83 qT:=mC2
open Go.Proofs
def LN:ua:=⟨[],[],(l7 (zK::l7 (zA::zK::zK::l7 (zA::zA::zK::wv (l7 (zK::zK::zK::l7 (l7 (zA::zA::zA::[])))))))),[oC [zK,zT (lA Syntax.row),zK],oC [zK,zK,zK,zK],oM (kZ jR.kv),oM (kZ jR.kv),oK,oD,oK,oD,oA Syntax.row,oC [zK,zK,zK,zK,zK,zT (lA Syntax.row),zK,zK]],none,none⟩
def LO:ua:=⟨[],[],(l7 (zK::l7 (zA::zK::zK::l7 (zA::zA::zK::wv (l7 (zL Syntax.row::zK::zK::l7 (l7 (zA::zA::zA::[])))))))),[oC [zK,zT (lA Syntax.row),zK],oC [zK,zK,zK,zK],oM (kZ jR.kv),oM (kZ jR.kv),oK,oD,oK,oC [zK,zK,zK,zK,zK,zT (lA Syntax.row),zK,zK]],(some 87),none⟩
def LP:ua:=⟨[],[],(zK::zA::zK::zK::zK::zA::zK::zA::zA::zA::zK::zK::l7 (l7 (l7 (zT (lA kW)::zK::zK::wv (l7 (l7 (zA::zA::[]))))))),[oC [zK,zT (lA Syntax.row),zK],oC [zK,zK,zK,zK],oM (kZ jR.kv),oM (kZ jR.kv),oK,oT jR.kv,oK,oD,oA Syntax.row],none,none⟩
def LQ:ua:=⟨[],[],(zK::zA::zK::zL Syntax.row::zK::zA::zK::zA::zA::zA::zK::zK::l7 (l7 (l7 (zT (lA kW)::zK::zK::wv (l7 (l7 (zA::zA::[]))))))),[oC [zK,zT (lA Syntax.row),zK],oC [zK,zK,zK,zK],oM (kZ jR.kv),oM (kZ jR.kv),oK,oT jR.kv,oK],(some 3),none⟩
@[reducible] def uo(X:kG)(n:Nat):kK Tu:=nh gf f286 n (qL gf [.cell 10 37] [] [0,1,2,3,4] 5 kq (lW (kZ Syntax.kv) kJ)) (cl:=l6 [(284,B5 (Ep n)),(285,nP (kZ jR.kv) (lr .i64) (lr .i64) (alN n))]) (qj:=oz [([0,1,0,1,1],LQ),([0,1,0,1,1],LP),([0,1,0,1,1,1,1],LO),([0,1,0,1,1,1,1],LN)]) (rk:=qM [] [0,1,2,3,4] 5 kq (lW (ZA 312 ag2) kJ)) (cp:=Az [(252,zM X.qU)]) (wx:=l2 [252]) (uz:=l2 []) (uC:=l2 [])
def ad6(X:kG)(n:Nat):so (uo X n) [0,1,1,1,0,0,1,1,0,0,1,0,1,1]=true:=jN
attribute [go_sem] ad6 LN LO LP LQ
abbrev LR(v0 v1 v2 v3:Int)(v4:List Syntax)(v5 v6:Int)(r2 r3:List (kj×jR))(r4:List (kj×Bool))(r8:List Syntax)(v11:Int)(v12:kj)(v13:List Syntax)(v14 v15:Int)(c8:Nat):jS:=⟨(mm (.int .i64 v0::mm (qA::.ptr 6 0::.int .i64 v1::mm (qA::qA::.ptr 9 0::wu (mm (.lR 8 c8::.int .i64 v2::.int .i64 v3::mm (mm (qA::qA::qA::[])))))))),[.cells [.ptr 1 0,.kF false 8 (mp Syntax.cells v4),.int .i64 v5],.cells [.map 2,.map 3,.map 4,.int .i64 v6],.map (mp (PX (kZ jR.kv)) r2),.map (mp (PX (kZ jR.kv)) r3),.map (mp GI r4),.vZ,.cells [.int .i64 0,.str (sb []),.int .i64 0,.kF true 0 [],.kF true 0 [],.kF true 0 [],.int .i64 0,.int .i64 0],.vZ,.lR true 8 (mp Syntax.cells r8),.cells [.int .i64 v11,.str (sb v12),.int .i64 0,.kF true 0 [],.kF true 0 [],.kF false 8 (mp Syntax.cells v13),.int .i64 v14,.int .i64 v15]],5,[]⟩
abbrev LS:=Int->Int->Int->Int->(List Syntax)->Int->Int->Tb->Tb->Ta->(List Syntax)->Int->kj->(List Syntax)->Int->Int->Option Tu
abbrev ab7(X:kG)(n:Nat)(K:List Kt)(Z:LS):Prop:=∀v0 v1 v2 v3 v4 v5 v6 r2 r3 r4 r8 v11 v12 v13 v14 v15 c8,c8=r8.length->run (uo X n) K (LR v0 v1 v2 v3 v4 v5 v6 r2 r3 r4 r8 v11 v12 v13 v14 v15 c8)=Z v0 v1 v2 v3 v4 v5 v6 r2 r3 r4 r8 v11 v12 v13 v14 v15
abbrev LU(v0 v1:Int)(v2:List Syntax)(v3 v4:Int)(v5:List Syntax)(v6 v7:Int)(r2 r3:List (kj×jR))(r4:List (kj×Bool))(v11:Int)(v12:kj)(v13:List Syntax)(v14 v15:Int):jS:=⟨(mm (.int .i64 v0::mm (qA::.ptr 6 0::.int .i64 v1::mm (qA::qA::.ptr 7 0::wu (mm (.kF true 8 (mp Syntax.cells v2)::.int .i64 v3::.int .i64 v4::mm (mm (qA::qA::qA::[])))))))),[.cells [.ptr 1 0,.kF false 8 (mp Syntax.cells v5),.int .i64 v6],.cells [.map 2,.map 3,.map 4,.int .i64 v7],.map (mp (PX (kZ jR.kv)) r2),.map (mp (PX (kZ jR.kv)) r3),.map (mp GI r4),.vZ,.cells [.int .i64 0,.str (sb []),.int .i64 0,.kF true 0 [],.kF true 0 [],.kF true 0 [],.int .i64 0,.int .i64 0],.cells [.int .i64 v11,.str (sb v12),.int .i64 0,.kF true 0 [],.kF true 0 [],.kF false 8 (mp Syntax.cells v13),.int .i64 v14,.int .i64 v15]],5,[]⟩
abbrev LV:=Int->Int->(List Syntax)->Int->Int->(List Syntax)->Int->Int->Tb->Tb->Ta->Int->kj->(List Syntax)->Int->Int->Option Tu
abbrev ab8(X:kG)(n:Nat)(K:List Kt)(Z:LV):Prop:=∀v0 v1 v2 v3 v4 v5 v6 v7 r2 r3 r4 v11 v12 v13 v14 v15,run (uo X n) K (LU v0 v1 v2 v3 v4 v5 v6 v7 r2 r3 r4 v11 v12 v13 v14 v15)=Z v0 v1 v2 v3 v4 v5 v6 v7 r2 r3 r4 v11 v12 v13 v14 v15
abbrev LW(v0 v1 v2:Int)(v3:List kj)(v4 v5:Int)(v6:List Syntax)(v7 v8:Int)(r2 r3:List (kj×jR))(r4:List (kj×Bool))(o5:jR)(r8:List Syntax)(c8:Nat):jS:=⟨(.ptr 0 0::qA::.int .i64 v0::.lR 8 c8::.int .i64 v1::qA::.ptr 5 0::qA::qA::qA::.ptr 6 0::.int .i64 v2::mm (mm (mm (.kF false 1 (mp kX v3)::.int .i64 v4::.int .i64 v5::wu (mm (mm (qA::qA::[]))))))),[.cells [.ptr 1 0,.kF false 8 (mp Syntax.cells v6),.int .i64 v7],.cells [.map 2,.map 3,.map 4,.int .i64 v8],.map (mp (PX (kZ jR.kv)) r2),.map (mp (PX (kZ jR.kv)) r3),.map (mp GI r4),.cells (jR.cells o5),.cells [.int .i64 0,.str (sb []),.int .i64 0,.kF true 0 [],.kF true 0 [],.kF true 0 [],.int .i64 0,.int .i64 0],.vZ,.lR true 8 (mp Syntax.cells r8)],5,[]⟩
abbrev LX:=Int->Int->Int->(List kj)->Int->Int->(List Syntax)->Int->Int->Tb->Tb->Ta->jR->(List Syntax)->Option Tu
abbrev ab9(X:kG)(n:Nat)(K:List Kt)(Z:LX):Prop:=∀v0 v1 v2 v3 v4 v5 v6 v7 v8 r2 r3 r4 o5 r8 c8,c8=r8.length->run (uo X n) K (LW v0 v1 v2 v3 v4 v5 v6 v7 v8 r2 r3 r4 o5 r8 c8)=Z v0 v1 v2 v3 v4 v5 v6 v7 v8 r2 r3 r4 o5 r8
abbrev LY(v0:Int)(v1:List Syntax)(v2 v3:Int)(v4:List kj)(v5 v6:Int)(v7:List Syntax)(v8 v9:Int)(r2 r3:List (kj×jR))(r4:List (kj×Bool))(o5:jR):jS:=⟨(.ptr 0 0::qA::.int .i64 v0::.kF true 8 (mp Syntax.cells v1)::.int .i64 v2::qA::.ptr 5 0::qA::qA::qA::.ptr 6 0::.int .i64 v3::mm (mm (mm (.kF false 1 (mp kX v4)::.int .i64 v5::.int .i64 v6::wu (mm (mm (qA::qA::[]))))))),[.cells [.ptr 1 0,.kF false 8 (mp Syntax.cells v7),.int .i64 v8],.cells [.map 2,.map 3,.map 4,.int .i64 v9],.map (mp (PX (kZ jR.kv)) r2),.map (mp (PX (kZ jR.kv)) r3),.map (mp GI r4),.cells (jR.cells o5),.cells [.int .i64 0,.str (sb []),.int .i64 0,.kF true 0 [],.kF true 0 [],.kF true 0 [],.int .i64 0,.int .i64 0]],5,[]⟩
abbrev yJ:=Int->(List Syntax)->Int->Int->(List kj)->Int->Int->(List Syntax)->Int->Int->Tb->Tb->Ta->jR->Option Tu
abbrev yK(X:kG)(n:Nat)(K:List Kt)(Z:yJ):Prop:=∀v0 v1 v2 v3 v4 v5 v6 v7 v8 v9 r2 r3 r4 o5,run (uo X n) K (LY v0 v1 v2 v3 v4 v5 v6 v7 v8 v9 r2 r3 r4 o5)=Z v0 v1 v2 v3 v4 v5 v6 v7 v8 v9 r2 r3 r4 o5
attribute [go_sem] LR LU LW LY
def Dm(X:kG)(n:Nat):LB (ab7 X n) [0,1,0,1,1,1,1] [.qg 2,.cut [1,1,1,1,1],.at [1,1,1,1,1]]:=mB2
def Dn(X:kG)(n:Nat):Nat->LS:=ui ((Dm X n).1)
def aut(X:kG){n:Nat}:Dn X n (m+1)=(Dm X n).1 (Dn X n m):=rfl
@[go_sem]def WU(X:kG)(n:Nat)(m:Nat):=vi (Dm X n) (Dn X n) m
def Do(X:kG)(n:Nat):LB (ab8 X n) [0,1,0,1,1,1,1] [.qg 2,.cut [1,1,1,1,1],.at [1,1,1,1,1]]:=mB2
def Dp(X:kG)(n:Nat):Nat->LV:=ui ((Do X n).1)
def auu(X:kG){n:Nat}:Dp X n (m+1)=(Do X n).1 (Dp X n m):=rfl
@[go_sem]def WV(X:kG)(n:Nat)(m:Nat):=vi (Do X n) (Dp X n) m
def Dq(X:kG)(n:Nat):LB (ab9 X n) [0,1,0,1,1] [.qg 0,.cut [1,1,1],.at [1,1,1]]:=mB2
def Dr(X:kG)(n:Nat):Nat->LX:=ui ((Dq X n).1)
def auv(X:kG){n:Nat}:Dr X n (m+1)=(Dq X n).1 (Dr X n m):=rfl
@[go_sem]def WW(X:kG)(n:Nat)(m:Nat):=vi (Dq X n) (Dr X n) m
def Ds(X:kG)(n:Nat):{B:Nat->yJ->yJ //∀m X0,yK X n (.lq m [0,1,0,1,1]::[.qg 0,.cut [1,1,1],.at [1,1,1]]) X0->yK X n (.at [0,0,1,0,1,1]::.lp m [0,1,0,1,1]::[.qg 0,.cut [1,1,1],.at [1,1,1]]) (B m X0)}:=mB2
def Dt(X:kG)(n:Nat):Nat->yJ:=lpM fun m=>(Ds X n).1 m
def auw(X:kG){n:Nat}:Dt X n (m+1)=(Ds X n).1 m (Dt X n m):=rfl
@[go_sem]def WX(X:kG)(n:Nat)(m:Nat):yK X n (.lq m [0,1,0,1,1]::[.qg 0,.cut [1,1,1],.at [1,1,1]]) (Dt X n m):=
 aIk (G:=fun m Z=>yK X n (.lq m [0,1,0,1,1]::[.qg 0,.cut [1,1,1],.at [1,1,1]]) Z) (fun _ _ _ _ _ _ _ _ _ _ _ _ _ _=>Li) (fun m _ ih v0 v1 v2 v3 v4 v5 v6 v7 v8 v9 r2 r3 r4 o5=>D3.trans ((Ds X n).2 _ _ ih v0 v1 v2 v3 v4 v5 v6 v7 v8 v9 r2 r3 r4 o5)) m
def EB(X:kG)(n:Nat):SX (uo X n) tK kq 101 um:=mC2
open Go.Proofs
def lQ:Nat->kG
 |0=>⟨Fu.z,Fu.z,Fu.z⟩
 |n+1=>⟨(EA (lQ n) n).1,(Bs (lQ n) n).1,(EB (lQ n) n).1⟩
def qU:Int->(List Syntax)->Int->Int->Tb->Tb->Ta->Option Tq:=(lQ n).qU
def ayc{n:Nat}:qU (n+1)=(EA (lQ n) n).1:=rfl
def qy:Int->(List Syntax)->Int->Int->Tb->Tb->Ta->Option Tq:=(lQ n).qy
def auy{n:Nat}:qy (n+1)=(Bs (lQ n) n).1:=rfl
def qb:jR->Int->(List Syntax)->Int->(List Syntax)->Int->Int->Tb->Tb->Ta->Option Tu:=(lQ n).qb
def ayd{n:Nat}:qb (n+1)=(EB (lQ n) n).1:=rfl
def awC{n:Nat}:(lQ n).qU=qU n/\(lQ n).qy=qy n/\(lQ n).qb=qb n:=⟨rfl,rfl,rfl⟩
def xZ:∀n:Nat,tN gf 252 (lX 0 (lW (lr .i64) kJ)) kq true kq qx kq (lW (ZA 312 ag2) kJ) (qT (lQ n).qU)/\tN gf 283 (lX 0 (lW (lr .i64) kJ)) kq true kq qx kq (lW (ZA 312 ag2) kJ) (qT (lQ n).qy)/\tN gf 286 tK kq true kq (lW (kZ Syntax.kv) kJ) kq (lW (ZA 312 ag2) kJ) (um (lQ n).qb)
 |0=>⟨fun _ _ _ h=>(by cases h),fun _ _ _ h=>(by cases h),fun _ _ _ h=>(by cases h)⟩
 |n+1=>by
  obtain⟨acd,WY,Du⟩:=xZ n
  exact⟨Ei (EA (lQ n) n) (gd (jQ (mV (IQ n)) (jQ (lw (Iu n)) jT)) jU (p:=(kB (k7 (WY)) (kB (k7 (Du)) lZ)))) func252 ntmps252 results252,
   Ei (Bs (lQ n) n) (gd (jQ (lB (BG n)) jT) jU (p:=(kB (k7 (Du)) lZ)) (c:=(nQ (Ay (Du)) tP))) func283 ntmps283 results283,
   Ei (EB (lQ n) n) (gd (jQ (mV (IQ n)) (jQ (lw (Iu n)) jT)) jU (p:=(kB (k7 (acd)) lZ))) func286 ntmps286 results286⟩
def ace:tN gf 252 (lX 0 (lW (lr .i64) kJ)) kq true kq qx kq (lW (ZA 312 ag2) kJ) (qT (qU n)):=(xZ n).1
def atO:tN gf 283 (lX 0 (lW (lr .i64) kJ)) kq true kq qx kq (lW (ZA 312 ag2) kJ) (qT (qy n)):=(xZ n).2.1
def awD:tN gf 286 tK kq true kq (lW (kZ Syntax.kv) kJ) kq (lW (ZA 312 ag2) kJ) (um (qb n)):=(xZ n).2.2
end Go.Abs
end
