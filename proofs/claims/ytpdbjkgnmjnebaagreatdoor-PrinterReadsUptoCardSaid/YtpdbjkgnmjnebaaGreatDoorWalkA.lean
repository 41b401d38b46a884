/- A part of the proof: what the functions compute. -/
import Derived.Test.YtpdbjkgnmjnebaaGreatDoorDataA
import Derived.Test.YtpdbjkgnmjnebaaGreatDoorExtA
set_option linter.all false
open Go.Proofs.Tryz renaming prog→fJ
open Nat renaming reduceLeDiff→fK,reduceEqDiff→fL,reduceAdd→fO,reduceSub→fP,reduceBEq→fQ,reduceMul→fR,reduceLT→fT,le_trans→fY,le_of_eq→fZ
open Int renaming reduceToNat→fM,reduceBEq→fS,reduceLE→fU,reduceLT→fV,reduceEq→fW
open Option renaming getD_some→fN
open List renaming replicate→fX
open Subtype renaming mk→ga
open Go.Code renaming seq→gb
open Go.Abs.AV renaming any→qA
noncomputable section
open Go.Proofs.Tryz
namespace Go.Abs
variable {m m2:Nat}
variable (n:Nat)
open Go.Proofs
attribute [go_sem] f96 f101 f102 f119 f305 f217 f64 f66 f216 f218 f117 f20 f60 f118 f321 f97 f99 f167 f105 f142 f224 f196 f241 f199 f103 f109 f173 f219 f261 f264 f55 f56 f75 f78 f193 f240 f140 f37 f38 f186 f187 f127 f315 f234 f302 f303 f277 f41 f42 f280 f200 f83 f94 f247 f249 f248 f205 f206 f152 f346 f251 f284 f213 f181 f129 f51 f52 f53 f61 f120 f39 f253 f62 f288 f162 f24 f161 f163 f308 f160 f104 f79
set_option maxRecDepth 100000
set_option maxHeartbeats 4000000
@[reducible] def ann:kK Bool:=nh fJ f96 n (l1 fJ [.tmp 2] mw)
def Mz:Jx (ann n) mo 6:=mB
def Su:=fu fun n=>(Mz n).1
def alO:∀n:Nat,uj fJ 96 mo mw (Su n):=ww fun n=>uU (Mz n) (gd jT jU) func96 ntmps96 results96
@[go_sem]def akt:ua:=⟨[],[],(zA::zK::zA::zK::zK::lH []),[oT jW.kv],none,none⟩
@[reducible] def ano(X:jW->Option Int)(n:Nat):kK Int:=nh fJ f101 n (l1 fJ [.tmp 2] (lr .i64)) (cl:=l6 [(101,nq (kZ jW.kv) (lr .i64) X)]) (qj:=oz [([0,1,0,1,1],akt)])
@[go_sem]abbrev aku(v0 v1:Int)(o0:jW):jS:=⟨(qA::.ptr 0 0::qA::.int .i64 v0::.int .i64 v1::lK []),[.cells (jW.cells o0)],0,[]⟩
abbrev Qt:=Int->Int->jW->Option Int
abbrev au2(X:jW->Option Int)(n:Nat)(K:List Kt)(Z:Qt):Prop:=∀v0 v1 o0,run (ano X n) K (aku v0 v1 o0)=Z v0 v1 o0
def JI(X:jW->Option Int)(n:Nat):LB (au2 X n) [0,1,0,1,1] [.qg 0,.cut [1,1,1],.at [1,1,1]]:=mB
def JJ(X:jW->Option Int)(n:Nat):Nat->Qt:=ui ((JI X n).1)
def aeZ(X:jW->Option Int){n:Nat}:JJ X n (m+1)=(JI X n).1 (JJ X n m):=rfl
@[go_sem]def ao9(X:jW->Option Int)(n:Nat)(m:Nat):=vi (JI X n) (JJ X n) m
def adz(X:jW->Option Int)(n:Nat):Jx (ano X n) (kZ jW.kv) 21:=mB
def Ej:Nat->jW->Option Int
 |0,_=>none
 |n+1,a0=>(adz (Ej n) n).1 a0
def ZC:∀n:Nat,uj fJ 101 (kZ jW.kv) (lr .i64) (Ej n)
 |0=>fun _ _ h=>(by cases h)
 |n+1=>by
  have au3:=ZC n;exact uU (adz (Ej n) n) (gd (jQ (lB (au3)) jT) jU) func101 ntmps101 results101
@[go_sem]def ag9:ua:=⟨[],[],(zA::zK::zA::zK::zK::lH (zA::[])),[oT jW.kv],none,none⟩
@[reducible] def akv(X:jW->Option Int)(n:Nat):kK Int:=nh fJ f102 n (l1 fJ [.tmp 2] (lr .i64)) (cl:=l6 [(102,nq (kZ jW.kv) (lr .i64) X)]) (qj:=oz [([0,1,0,1,1],ag9)])
@[go_sem]abbrev aha(v0 v1:Int)(o0:jW):jS:=⟨(qA::.ptr 0 0::qA::.int .i64 v0::.int .i64 v1::lK (qA::[])),[.cells (jW.cells o0)],0,[]⟩
abbrev ate(X:jW->Option Int)(n:Nat)(K:List Kt)(Z:Qt):Prop:=∀v0 v1 o0,run (akv X n) K (aha v0 v1 o0)=Z v0 v1 o0
def GV(X:jW->Option Int)(n:Nat):LB (ate X n) [0,1,0,1,1] [.qg 0,.cut [1,1,1],.at [1,1,1]]:=mB
def GW(X:jW->Option Int)(n:Nat):Nat->Qt:=ui ((GV X n).1)
def abl(X:jW->Option Int){n:Nat}:GW X n (m+1)=(GV X n).1 (GW X n m):=rfl
@[go_sem]def anp(X:jW->Option Int)(n:Nat)(m:Nat):=vi (GV X n) (GW X n) m
def ZD(X:jW->Option Int)(n:Nat):Jx (akv X n) (kZ jW.kv) 22:=mB
def BF:Nat->jW->Option Int
 |0,_=>none
 |n+1,a0=>(ZD (BF n) n).1 a0
def VZ:∀n:Nat,uj fJ 102 (kZ jW.kv) (lr .i64) (BF n)
 |0=>fun _ _ h=>(by cases h)
 |n+1=>by
  have atf:=VZ n;exact uU (ZD (BF n) n) (gd (jQ (lB (atf)) jT) jU) func102 ntmps102 results102
@[go_sem]def akw:ua:=⟨[],[],(zA::zA::zK::zK::zA::zK::lH (lH [])),[oT kA.kv,oT kA.kv],none,none⟩
@[reducible] def adA:kK Bool:=nh fJ f119 n (l1 fJ [.tmp 4] mw) (qj:=oz [([0,1,0,1,1],akw)]) (uz:=l2 []) (uC:=l2 [])
@[go_sem]def axY:so (adA n) [0,0,0,1,0,0,1,0,1,1]=true:=jN
@[go_sem]abbrev akx(v0:Int)(o0 o1:kA):jS:=⟨(qA::qA::.ptr 0 0::.ptr 1 0::qA::.int .i64 v0::lK (lK [])),[.cells (kA.cells o0),.cells (kA.cells o1)],0,[]⟩
abbrev aky:=Int->kA->kA->Option Bool
abbrev au4(K:List Kt)(Z:aky):Prop:=∀v0 o0 o1,run (adA n) K (akx v0 o0 o1)=Z v0 o0 o1
def JK:LB (au4 n) [0,1,0,1,1] [.qg 0,.cut [1,1,1],.at [1,1,1]]:=mB
def JL:Nat->aky:=ui ((JK n).1)
def ae0{n:Nat}:JL n (m+1)=(JK n).1 (JL n m):=rfl
@[go_sem]def apa(m:Nat):=vi (JK n) (JL n) m
def adB:Ll (adA n) (kZ kA.kv) (kZ kA.kv) 38:=mB
def adC:=fu fun n=>(adB n).1
def au5:∀n:Nat,uu fJ 119 (kZ kA.kv) (kZ kA.kv) mw (adC n):=yu fun n=>we (adB n) (gd jT jU) func119 ntmps119 results119
@[go_sem]def abm:ua:=⟨[],[],(zA::zK::zA::zK::lH []),[oT jW.kv],none,none⟩
@[reducible] def ae1:kK Int:=nh fJ f305 n (l1 fJ [.tmp 2] (lr .i64)) (qj:=oz [([0,0,1,1],abm)])
@[go_sem]abbrev abn(v0:Int)(o0:jW):jS:=⟨(qA::.ptr 0 0::qA::.int .i64 v0::lK []),[.cells (jW.cells o0)],0,[]⟩
abbrev abo:=Int->jW->Option Int
abbrev apb(K:List Kt)(Z:abo):Prop:=∀v0 o0,run (ae1 n) K (abn v0 o0)=Z v0 o0
def Ij:LB (apb n) [0,0,1,1] [.qg 0,.cut [1,1,1],.at [1,1,1]]:=mB
def C4:Nat->abo:=ui ((Ij n).1)
def alQ{n:Nat}:C4 n (m+1)=(Ij n).1 (C4 n m):=rfl
@[go_sem]def ajP(m:Nat):=vi (Ij n) (C4 n) m
def Sv:Jx (ae1 n) (kZ jW.kv) 20:=mB
def Qu:=fu fun n=>(Sv n).1
def apc:∀n:Nat,uj fJ 305 (kZ jW.kv) (lr .i64) (Qu n):=ww fun n=>uU (Sv n) (gd jT jU) func305 ntmps305 results305
def ahb:ua:=⟨[],[],(zA::zK::zA::zK::zK::lH (lH (lH (l7 (l7 (zA::[])))))),[oT kz.kv,oA kW],none,none⟩
def ae2:ua:=⟨[],[],(zA::zK::zA::zL kW::zK::lH (lH (lH (l7 (l7 (zA::[])))))),[oT kz.kv],(some 3),none⟩
def ahc:ua:=⟨[(5,1,true)],[],(zA::zK::zA::zA::zA::zK::zK::lH (lH (lH (l7 (zA::zA::zA::[]))))),[oT kz.kv,oA kW],none,none⟩
@[reducible] def JM:kK (List kj):=nh fJ f65 n (l1 fJ [.tmp 2] (lA kW)) (qj:=oz [([0,1,0,1,0,1,1,1,0,1,0,1],ae2),([0,1,0,1,0,1,1,1,0,1,0,1],ahb),([0,1,0,1,0,1,1,1,1,1,0,1,0,1],ahc)])
attribute [go_sem] ahb ae2 ahc
abbrev ahd(v0:Int)(o0:kz)(r1:List kj)(c1:Nat):jS:=⟨(qA::.ptr 0 0::qA::.lR 1 c1::.int .i64 v0::lK (lK (lK (mm (mm (qA::[])))))),[.cells (kz.cells o0),.lR true 1 (mp kX r1)],0,[]⟩
abbrev ahe:List Kt:=[.qg 1,.cut [1,1,0,1,1,1,0,1,0,1],.at [1,1,0,1,1,1,0,1,0,1],.qg 0,.cut [1,1],.at [1,1]]
abbrev MA:=Int->kz->(List kj)->Option (List kj)
abbrev atg(K:List Kt)(Z:MA):Prop:=∀v0 o0 r1 c1,c1=r1.length->run (JM n) K (ahd v0 o0 r1 c1)=Z v0 o0 r1
abbrev ahf(v0:Int)(o0:kz)(r1:List kj)(c1:Nat):jS:=⟨(qA::.ptr 0 0::qA::qA::qA::.lR 1 c1::.int .i64 v0::lK (lK (lK (mm (qA::qA::qA::[]))))),[.cells (kz.cells o0),.lR true 1 (mp kX r1)],0,[]⟩
abbrev ahg:List Kt:=[.qg 3,.cut [1,1,0,1,1,1,1,1,0,1,0,1],.at [1,1,0,1,1,1,1,1,0,1,0,1],.qg 0,.cut [1,1],.at [1,1]]
abbrev ath(K:List Kt)(Z:MA):Prop:=∀v0 o0 r1 c1,c1=r1.length->run (JM n) K (ahf v0 o0 r1 c1)=Z v0 o0 r1
attribute [go_sem] ahd ahe ahf ahg
def GX:LB (atg n) [0,1,0,1,0,1,1,1,0,1,0,1] ahe:=by
 apply ga;intro m X0 ih v0 o0 r1 c1 ec1;subst ec1;simp (config:={maxSteps:=100000000}) only[go_sem,fO,fP,fK,fL,fQ,fR,fT,fU,fV,fM,fS,fW,f65,fN,mixed,ih];exact rfl
def GY:Nat->MA:=ui ((GX n).1)
def abp{n:Nat}:GY n (m+1)=(GX n).1 (GY n m):=rfl
def MB(m:Nat):=vi (GX n) (GY n) m
def Sw:{B:Nat->(List kj)->Int->kz->Option (List kj) //∀(m:Nat)(v0:List kj)(v1:Int)(o0:kz),run (JM n) [.at [0,0,1,0,1,0,1,1,1,0,1,0,1],.lp m [0,1,0,1,0,1,1,1,0,1,0,1],.qg 1,.cut [1,1,0,1,1,1,0,1,0,1],.at [1,1,0,1,1,1,0,1,0,1],.qg 0,.cut [1,1],.at [1,1]] ⟨[qA,.ptr 0 0,qA,.kF true 1 (mp kX v0),.int .i64 v1,qA,qA,qA,qA,qA,qA,qA,qA,qA,qA,qA,qA,qA,qA,qA,qA,qA,qA,qA,qA,qA,qA,qA,qA,qA,qA,qA,qA,qA,qA,qA,qA,qA,qA,qA,qA,qA,qA,qA,qA,qA,qA,qA,qA,qA,qA,qA,qA,qA,qA,qA,qA,qA,qA,qA,qA,qA],[.cells (kz.cells o0)],0,[]⟩=B m v0 v1 o0}:=by
 apply ga;intro m v0 v1 o0;simp (config:={maxSteps:=100000000}) only[go_sem,fO,fP,fK,fL,fQ,fR,fT,fU,fV,fM,fS,fW,f65,fN,mixed,MB n];exact rfl
def V0:Nat->(List kj)->Int->kz->Option (List kj)
 |0,_,_,_=>none
 |m+1,v0,v1,o0=>(Sw n).1 m v0 v1 o0
def Ym:∀(m:Nat),(∀(v0:List kj)(v1:Int)(o0:kz),run (JM n) [.lq m [0,1,0,1,0,1,1,1,0,1,0,1],.qg 1,.cut [1,1,0,1,1,1,0,1,0,1],.at [1,1,0,1,1,1,0,1,0,1],.qg 0,.cut [1,1],.at [1,1]] ⟨[qA,.ptr 0 0,qA,.kF true 1 (mp kX v0),.int .i64 v1,qA,qA,qA,qA,qA,qA,qA,qA,qA,qA,qA,qA,qA,qA,qA,qA,qA,qA,qA,qA,qA,qA,qA,qA,qA,qA,qA,qA,qA,qA,qA,qA,qA,qA,qA,qA,qA,qA,qA,qA,qA,qA,qA,qA,qA,qA,qA,qA,qA,qA,qA,qA,qA,qA,qA,qA,qA],[.cells (kz.cells o0)],0,[]⟩=V0 n m v0 v1 o0)
 |0=>by intros;exact Li
 |m+1=>by
  intro v0 v1 o0;rw[D3];exact(Sw n).2 m v0 v1 o0
def GZ:LB (ath n) [0,1,0,1,0,1,1,1,1,1,0,1,0,1] ahg:=by
 apply ga;intro m X0 ih v0 o0 r1 c1 ec1;subst ec1;simp (config:={maxSteps:=100000000}) only[go_sem,fO,fP,fK,fL,fQ,fR,fT,fU,fV,fM,fS,fW,f65,fN,mixed,MB n,Ym n,ih];exact rfl
def G1:Nat->MA:=ui ((GZ n).1)
def abq{n:Nat}:G1 n (m+1)=(GZ n).1 (G1 n m):=rfl
def anq(m:Nat):=vi (GZ n) (G1 n) m
def ZE:Jx (JM n) (kZ kz.kv) 62:=by
 apply ga;intro a0;simp (config:={maxSteps:=100000000}) only[go_sem,fO,fP,fK,fL,fQ,fR,fT,fU,fV,fM,fS,fW,f65,fN,mixed,MB n,Ym n,anq n];exact rfl
def Ln:=fu fun n=>(ZE n).1
def V1:∀n:Nat,uj fJ 65 (kZ kz.kv) (lA kW) (Ln n):=ww fun n=>uU (ZE n) (gd jT jU) func65 ntmps65 results65
open Go.Proofs
@[reducible] def ati:kK Bool:=nh fJ f217 n (l1 fJ [.tmp 2] mw)
def MC:Jx (ati n) (lr .u8) 21:=mB
def Ik:=fu fun n=>(MC n).1
def aqQ:∀n:Nat,uj fJ 217 (lr .u8) mw (Ik n):=ww fun n=>uU (MC n) (gd jT jU) func217 ntmps217 results217
@[go_sem]def adD:ua:=⟨[],[],(zT (lA kW)::zK::zA::zA::zA::zK::l7 (l7 (l7 []))),[],none,none⟩
@[reducible] def aqj:kK Bool:=nh fJ f64 n (l1 fJ [.tmp 4] mw) (qj:=oz [([0,1,0,1],adD)])
@[go_sem]abbrev adE(v0:List kj)(v1:kj)(v2:Int):jS:=⟨(.kF false 1 (mp kX v0)::.str (sb v1)::qA::qA::qA::.int .i64 v2::mm (mm (mm []))),[],0,[]⟩
abbrev aQR:=(List kj)->kj->Int->Option Bool
abbrev axZ(K:List Kt)(Z:aQR):Prop:=∀v0 v1 v2,run (aqj n) K (adE v0 v1 v2)=Z v0 v1 v2
def MD:LB (axZ n) [0,1,0,1] [.qg 0,.cut [1,1],.at [1,1]]:=mB
def ME:Nat->aQR:=ui ((MD n).1)
def ahh{n:Nat}:ME n (m+1)=(MD n).1 (ME n m):=rfl
@[go_sem]def aqR(m:Nat):=vi (MD n) (ME n) m
def ahi:Ll (aqj n) (lA kW) mo 18:=mB
def VA:=fu fun n=>(ahi n).1
def adF:∀n:Nat,uu fJ 64 (lA kW) mo mw (VA n):=yu fun n=>we (ahi n) (gd jT jU) func64 ntmps64 results64
def ahj:ua:=⟨[],[],(zA::zK::zK::zK::zA::zA::zK::zA::zK::wv (lH (l7 (zA::zA::zA::[])))),[oT kz.kv,oK],none,none⟩
def ahk:ua:=⟨[],[],(zA::zK::zK::zK::zA::zA::zK::zK::zA::zK::wv (lH (l7 (zA::zA::[])))),[oT kz.kv,oK,oC [zK,zK,zK,zK,zK,zK,zK,zT (lA kA.row),zT (lA jW.row)]],none,none⟩
@[reducible] def Fo:kK Entry:=nh fJ f66 n (l1 fJ [.cell 6 63] (kZ Entry.kv)) (qj:=oz [([0,1,0,1,1,0,1,1,1,1,1,1,1,0,1,0,1,1],ahj),([0,1,1,1,1,1,1,1,1,1,0,1,0,1,1],ahk)]) (uz:=l2 []) (uC:=l2 [])
def au6:anm (Fo n) [0,0,1,0,0,1,0,0,1,0,1,1,0,1,1,1,1,1,1,1,0,1,0,1,1] [0,0,1,0,0,1,0,0,1,1,1,1,1,1,1,1,1,0,1,0,1,1]:=⟨jN,jN⟩
def au7:xR (Fo n) [0,0,1,0,0,1,0,0,1,0,1,1,0,1,1,1,1,1,1,1,0,1,0,1,1] 3 11 5 11 7 11 9 11/\xR (Fo n) [0,0,1,0,0,1,0,0,1,1,1,1,1,1,1,1,1,0,1,0,1,1] 3 11 5 11 7 11 9 11:=⟨⟨jN,jN,jN,jN⟩,jN,jN,jN,jN⟩
attribute [go_sem] au6 au7 ahj ahk
abbrev ahl(v0:Int)(v1:kj)(v2:Int)(o0:kz):jS:=⟨(qA::.int .i64 v0::.str (sb v1)::.ptr 0 0::qA::qA::.ptr 1 0::qA::.int .i64 v2::wu (lK (mm (qA::qA::qA::[])))),[.cells (kz.cells o0),.cells [.int .i64 0,.int .i64 0,.int .i64 0,.int .i64 0,.int .i64 0,.int .i64 0,.str (sb []),.kF true 0 [],.kF true 0 []]],0,[]⟩
abbrev ahm:List Kt:=[.qg 3,.cut [1,1,1,0,1,1,1,1,1,1,1,0,1,0,1,1],.at [1,1,1,0,1,1,1,1,1,1,1,0,1,0,1,1],.qg 0,.cut [1,1,1],.at [1,1,1]]
abbrev ahn:=Int->kj->Int->kz->Option Entry
abbrev atj(K:List Kt)(Z:ahn):Prop:=∀v0 v1 v2 o0,run (Fo n) K (ahl v0 v1 v2 o0)=Z v0 v1 v2 o0
abbrev aho(v0:Int)(v1:kj)(v2:Int)(o0:kz)(v4 v5 v6 v7:Int)(v8:kj)(v9:List kA)(v10:List jW):jS:=⟨(qA::.int .i64 v0::.str (sb v1)::.ptr 0 0::qA::qA::.ptr 1 0::.ptr 2 0::qA::.int .i64 v2::wu (lK (mm (qA::qA::[])))),[.cells (kz.cells o0),.cells [.int .i64 0,.int .i64 0,.int .i64 0,.int .i64 0,.int .i64 0,.int .i64 0,.str (sb []),.kF true 0 [],.kF true 0 []],.cells [.int .i64 0,.int .i64 v4,.int .i64 0,.int .i64 v5,.int .i64 v6,.int .i64 v7,.str (sb v8),.kF false 2 (mp kA.cells v9),.kF false 5 (mp jW.cells v10)]],0,[]⟩
abbrev ahp:=Int->kj->Int->kz->Int->Int->Int->Int->kj->(List kA)->(List jW)->Option Entry
abbrev atk(K:List Kt)(Z:ahp):Prop:=∀v0 v1 v2 o0 v4 v5 v6 v7 v8 v9 v10,run (Fo n) K (aho v0 v1 v2 o0 v4 v5 v6 v7 v8 v9 v10)=Z v0 v1 v2 o0 v4 v5 v6 v7 v8 v9 v10
attribute [go_sem] ahl ahm aho
def G2:LB (atj n) [0,1,0,1,1,0,1,1,1,1,1,1,1,0,1,0,1,1] ahm:=mB
def G3:Nat->ahn:=ui ((G2 n).1)
def abr{n:Nat}:G3 n (m+1)=(G2 n).1 (G3 n m):=rfl
@[go_sem]def anr(m:Nat):=vi (G2 n) (G3 n) m
def G4:LB (atk n) [0,1,1,1,1,1,1,1,1,1,0,1,0,1,1] [.qg 1,.qg 0,.cut [1,1,1],.at [1,1,1]]:=mB
def G5:Nat->ahp:=ui ((G4 n).1)
def abt{n:Nat}:G5 n (m+1)=(G4 n).1 (G5 n m):=rfl
@[go_sem]def ant(m:Nat):=vi (G4 n) (G5 n) m
def ZF:SC3 (Fo n) (kZ kz.kv) (lr .i64) mo 96:=mB
def Q1:=fu fun n=>(ZF n).1
def ahq:∀n:Nat,auZ fJ 66 (kZ kz.kv) (lr .i64) mo (kZ Entry.kv) (Q1 n):=aIv fun n=>aDK (ZF n) (gd jT jU) func66 ntmps66 results66
@[reducible] def ax0:kK Int:=nh fJ f216 n (l1 fJ [.tmp 2] (lr .i64))
def aQS:Jx (ax0 n) (lr .i64) 15:=mB
def PY:=fu fun n=>(aQS n).1
def au8:∀n:Nat,uj fJ 216 (lr .i64) (lr .i64) (PY n):=ww fun n=>uU (aQS n) (gd jT jU) func216 ntmps216 results216
@[go_sem]def ahr:ua:=⟨[],[],(zA::zK::zA::zK::lH (lH (lH (l7 (l7 (l7 (zA::zA::zA::[]))))))),[oT kA.kv],none,none⟩
@[reducible] def ZG:kK Bool:=nh fJ f218 n (l1 fJ [.tmp 2] mw) (qj:=oz [([0,1,0,1,1],ahr)]) (uz:=l2 []) (uC:=l2 [])
@[go_sem]def au9:so (ZG n) [0,0,1,1,0,0,1,0,0,1,0,1,1]=true:=jN
@[go_sem]abbrev ahs(v0:Int)(o0:kA):jS:=⟨(qA::.ptr 0 0::qA::.int .i64 v0::lK (lK (lK (mm (mm (mm (qA::qA::qA::[]))))))),[.cells (kA.cells o0)],0,[]⟩
abbrev aht:=Int->kA->Option Bool
abbrev atl(K:List Kt)(Z:aht):Prop:=∀v0 o0,run (ZG n) K (ahs v0 o0)=Z v0 o0
def AB:LB (atl n) [0,1,0,1,1] [.qg 0,.cut [1,1,1],.at [1,1,1]]:=mB
def AC:Nat->aht:=ui ((AB n).1)
def Il{n:Nat}:AC n (m+1)=(AB n).1 (AC n m):=rfl
@[go_sem]def anu(m:Nat):=vi (AB n) (AC n) m
def Qv:Jx (ZG n) (kZ kA.kv) 67:=mB
def Lo:=fu fun n=>(Qv n).1
def atm:∀n:Nat,uj fJ 218 (kZ kA.kv) mw (Lo n):=ww fun n=>uU (Qv n) (gd jT jU) func218 ntmps218 results218
@[reducible] def ava:kK Int:=nh fJ f117 n (l1 fJ [.tmp 4] (lr .i64))
def ZH:Ll (ava n) (lr .i64) (lr .i64) 27:=mB
def Yn:=fu fun n=>(ZH n).1
def atn:∀n:Nat,uu fJ 117 (lr .i64) (lr .i64) (lr .i64) (Yn n):=yu fun n=>we (ZH n) (gd jT jU) func117 ntmps117 results117
open Go.Proofs
structure p9 where
 Aa:jW->Option Bool
 mz:(List jW)->Unit->Option Bool
 nH:(List jW)->Unit->Option Int
open Go.Proofs
@[go_sem]def ahu:ua:=⟨[],[],(zA::zK::l7 (zT (lA kA.row)::zK::zK::lH (l7 (l7 [])))),[oT jW.kv],none,none⟩
@[reducible] def akz(X:p9)(n:Nat):kK Bool:=nh fJ f20 n (l1 fJ [.tmp 2] mw) (cl:=l6 [(60,nP (lA jW.row) (tyF 20) mw X.mz)]) (qj:=oz [([0,1,0,1],ahu)])
@[go_sem]abbrev ahv(v0:List kA)(v1 v2:Int)(o0:jW):jS:=⟨(qA::.ptr 0 0::mm (.kF false 2 (mp kA.cells v0)::.int .i64 v1::.int .i64 v2::lK (mm (mm [])))),[.cells (jW.cells o0)],0,[]⟩
abbrev ahw:=(List kA)->Int->Int->jW->Option Bool
abbrev ato(X:p9)(n:Nat)(K:List Kt)(Z:ahw):Prop:=∀v0 v1 v2 o0,run (akz X n) K (ahv v0 v1 v2 o0)=Z v0 v1 v2 o0
def G6(X:p9)(n:Nat):LB (ato X n) [0,1,0,1] [.qg 0,.cut [1,1],.at [1,1]]:=mB
def G7(X:p9)(n:Nat):Nat->ahw:=ui ((G6 X n).1)
def abu(X:p9){n:Nat}:G7 X n (m+1)=(G6 X n).1 (G7 X n m):=rfl
@[go_sem]def anv(X:p9)(n:Nat)(m:Nat):=vi (G6 X n) (G7 X n) m
def Qw(X:p9)(n:Nat):Jx (akz X n) (kZ jW.kv) 33:=mB
open Go.Proofs
@[reducible] def G8(X:p9)(n:Nat):kK Bool:=nh fJ f60 n (l1 fJ [.tmp 4] mw) (cl:=l6 [(118,nP (lA jW.row) (tyF 20) (lr .i64) X.nH)])
def qR(X:p9)(n:Nat):Ll (G8 X n) (lA jW.row) (tyF 20) 9:=mB
open Go.Proofs
@[go_sem]def zb:ua:=⟨[],[],(zT (lA jW.row)::zT (tyF 20)::l7 (zA::zK::zK::l7 (l7 (zA::zA::[])))),[],none,none⟩
@[reducible] def Ab(X:p9)(n:Nat):kK Int:=nh fJ f118 n (l1 fJ [.tmp 4] (lr .i64)) (cl:=l6 [(20,nq (kZ jW.kv) mw X.Aa)]) (qj:=oz [([0,1,0,1],zb)])
@[go_sem]abbrev zc(v0:List jW)(v1 v2:Int):jS:=⟨(.kF false 5 (mp jW.cells v0)::.func (.func 20) [] []::mm (qA::.int .i64 v1::.int .i64 v2::mm (mm (qA::qA::[])))),[],0,[]⟩
abbrev zd:=(List jW)->Int->Int->Option Int
abbrev I9(X:p9)(n:Nat)(K:List Kt)(Z:zd):Prop:=∀v0 v1 v2,run (Ab X n) K (zc v0 v1 v2)=Z v0 v1 v2
def pW(X:p9)(n:Nat):LB (I9 X n) [0,1,0,1] [.qg 0,.cut [1,1],.at [1,1]]:=mB
def pX(X:p9)(n:Nat):Nat->zd:=ui ((pW X n).1)
def yf(X:p9){n:Nat}:pX X n (m+1)=(pW X n).1 (pX X n m):=rfl
@[go_sem]def GD(X:p9)(n:Nat)(m:Nat):=vi (pW X n) (pX X n) m
def rT(X:p9)(n:Nat):Ll (Ab X n) (lA jW.row) (tyF 20) 19:=mB
open Go.Proofs
def nJ:Nat->p9
 |0=>⟨Fu.z,Fu.z,Fu.z⟩
 |n+1=>⟨(Qw (nJ n) n).1,(qR (nJ n) n).1,(rT (nJ n) n).1⟩
def Aa:jW->Option Bool:=(nJ n).Aa
def avb{n:Nat}:Aa (n+1)=(Qw (nJ n) n).1:=rfl
def mz:(List jW)->Unit->Option Bool:=(nJ n).mz
def G9{n:Nat}:mz (n+1)=(qR (nJ n) n).1:=rfl
def nH:(List jW)->Unit->Option Int:=(nJ n).nH
def JN{n:Nat}:nH (n+1)=(rT (nJ n) n).1:=rfl
def AD{n:Nat}:(nJ n).Aa=Aa n/\(nJ n).mz=mz n/\(nJ n).nH=nH n:=⟨rfl,rfl,rfl⟩
def Ky:∀n:Nat,uj fJ 20 (kZ jW.kv) mw (nJ n).Aa/\uu fJ 60 (lA jW.row) (tyF 20) mw (nJ n).mz/\uu fJ 118 (lA jW.row) (tyF 20) (lr .i64) (nJ n).nH
 |0=>⟨fun _ _ h=>(by cases h),fun _ _ _ h=>(by cases h),fun _ _ _ h=>(by cases h)⟩
 |n+1=>by
  obtain⟨atp,GF,Ja⟩:=Ky n
  exact⟨uU (Qw (nJ n) n) (gd (jQ (lw (GF)) jT) jU) func20 ntmps20 results20,
   we (qR (nJ n) n) (gd (jQ (lw (Ja)) jT) jU) func60 ntmps60 results60,
   we (rT (nJ n) n) (gd (jQ (lB (atp)) jT) jU) func118 ntmps118 results118⟩
def atq:uj fJ 20 (kZ jW.kv) mw (Aa n):=(Ky n).1
def agF:uu fJ 60 (lA jW.row) (tyF 20) mw (mz n):=(Ky n).2.1
def ajQ:uu fJ 118 (lA jW.row) (tyF 20) (lr .i64) (nH n):=(Ky n).2.2
open Go.Proofs
def anw:ua:=⟨[(4,5,true)],[],(zA::zK::zA::zK::zK::lH (l7 (zA::zA::[]))),[oT jW.kv,oK,oA jW.row],none,none⟩
@[reducible] def Yo:kK ((List jW)×jW):=nh fJ f321 n (l1 fJ [.tmp 2,.cell 3 49] (Qr (lA jW.row) (kZ jW.kv))) (qj:=oz [([0,0,1,1],anw)]) (uz:=l2 []) (uC:=l2 [])
def aBc:so (Yo n) [0,1,1,1]=true:=jN
def aBd:Mt (Yo n) [0,1,1,1] 1 3=true:=jN
attribute [go_sem] aBc aBd anw
@[go_sem]abbrev anx(o0:jW)(r2:List jW)(c2:Nat):jS:=⟨(qA::.ptr 0 0::qA::.ptr 1 0::.lR 2 c2::lK (mm (qA::qA::[]))),[.cells (jW.cells o0),.cells [.int .i64 0,.int .i64 0,.str (sb []),.kF true 0 [],.kF true 0 []],.lR true 5 (mp jW.cells r2)],0,[]⟩
abbrev anz:=jW->(List jW)->Option ((List jW)×jW)
abbrev ax1(K:List Kt)(Z:anz):Prop:=∀o0 r2 c2,c2=r2.length->run (Yo n) K (anx o0 r2 c2)=Z o0 r2
def MF:LB (ax1 n) [0,0,1,1] [.qg 0,.cut [1,1,1],.at [1,1,1]]:=mB
def aQT:Nat->anz:=ui ((MF n).1)
def ahx{n:Nat}:aQT n (m+1)=(MF n).1 (aQT n m):=rfl
@[go_sem]def aqS(m:Nat):=vi (MF n) (aQT n) m
def ahy:Jx (Yo n) (kZ jW.kv) 27:=mB
def ajJ:=fu fun n=>(ahy n).1
def ax2:∀n:Nat,uj fJ 321 (kZ jW.kv) (Qr (lA jW.row) (kZ jW.kv)) (ajJ n):=ww fun n=>uU (ahy n) (gd jT jU) func321 ntmps321 results321
@[go_sem]def ahz:ua:=⟨[],[],(zK::l7 (zK::zA::zA::zT (lA jW.row)::zK::zK::lH (zA::zA::[]))),[],none,none⟩
@[reducible] def akA(X:Int->(List jW)->Option Int)(n:Nat):kK Int:=nh fJ f97 n (l1 fJ [.tmp 4] (lr .i64)) (cl:=l6 [(97,nP (lr .i64) (lA jW.row) (lr .i64) X)]) (qj:=oz [([0,1,0,1,1],ahz)])
@[go_sem]abbrev ahA(v0 v1:Int)(v2:List jW)(v3 v4:Int):jS:=⟨(.int .i64 v0::mm (.int .i64 v1::qA::qA::.kF false 5 (mp jW.cells v2)::.int .i64 v3::.int .i64 v4::lK (qA::qA::[]))),[],0,[]⟩
abbrev ahB:=Int->Int->(List jW)->Int->Int->Option Int
abbrev atr(X:Int->(List jW)->Option Int)(n:Nat)(K:List Kt)(Z:ahB):Prop:=∀v0 v1 v2 v3 v4,run (akA X n) K (ahA v0 v1 v2 v3 v4)=Z v0 v1 v2 v3 v4
def He(X:Int->(List jW)->Option Int)(n:Nat):LB (atr X n) [0,1,0,1,1] [.qg 0,.cut [1,1,1],.at [1,1,1]]:=mB
def Hf(X:Int->(List jW)->Option Int)(n:Nat):Nat->ahB:=ui ((He X n).1)
def abv(X:Int->(List jW)->Option Int){n:Nat}:Hf X n (m+1)=(He X n).1 (Hf X n m):=rfl
@[go_sem]def anA(X:Int->(List jW)->Option Int)(n:Nat)(m:Nat):=vi (He X n) (Hf X n) m
def ZI(X:Int->(List jW)->Option Int)(n:Nat):Ll (akA X n) (lr .i64) (lA jW.row) 29:=mB
def D4:Nat->Int->(List jW)->Option Int
 |0,_,_=>none
 |n+1,a0,a1=>(ZI (D4 n) n).1 a0 a1
def ahC:∀n:Nat,uu fJ 97 (lr .i64) (lA jW.row) (lr .i64) (D4 n)
 |0=>fun _ _ _ h=>(by cases h)
 |n+1=>by
  have att:=ahC n;exact we (ZI (D4 n) n) (gd (jQ (lw (att)) jT) jU) func97 ntmps97 results97
@[reducible] def avc:kK Bool:=nh fJ f99 n (l1 fJ [.tmp 2] mw)
def ZJ:Jx (avc n) (kZ kA.kv) 7:=mB
def ahD:=fu fun n=>(ZJ n).1
def atu:∀n:Nat,uj fJ 99 (kZ kA.kv) mw (ahD n):=ww fun n=>uU (ZJ n) (gd jT jU) func99 ntmps99 results99
def MG:ua:=⟨[],[],(zK::zA::zK::zK::lH (l7 (l7 []))),[oA jW.row],none,none⟩
@[reducible] def rz:kK (TL×Unit):=nh fJ f167 n (ao4 fJ [] (uf (aQL false jW.row) sM) F8 1) (qj:=oz [([0,1],MG)]) (uz:=l2 []) (uC:=l2 [])
def afV:so (rz n) [0,0,1,0,0,1]=true:=jN
def afW:xR (rz n) [0,0,1,0,0,1] 6 13 7 13 10 13 11 13/\xR (rz n) [0,0,1,0,0,1] 12 13 13 14 6 15 7 15/\xR (rz n) [0,0,1,0,0,1] 10 15 11 15 12 15 13 15/\Mt (rz n) [0,0,1,0,0,1] 14 15=true:=⟨⟨jN,jN,jN,jN⟩,⟨jN,jN,jN,jN⟩,⟨jN,jN,jN,jN⟩,jN⟩
attribute [go_sem] afV afW MG
@[go_sem]abbrev MH(v0 v1:Int)(r0:List jW)(c0:Nat):jS:=⟨(.lR 0 c0::qA::.int .i64 v0::.int .i64 v1::lK (mm (mm []))),[.lR false 5 (mp jW.cells r0)],1,[]⟩
abbrev MI:=Int->Int->(List jW)->Option (TL×Unit)
abbrev adG(K:List Kt)(Z:MI):Prop:=∀v0 v1 r0 c0,c0=r0.length->run (rz n) K (MH v0 v1 r0 c0)=Z v0 v1 r0
def zu:LB (adG n) [0,1] [.qg 0]:=mB
def zw:Nat->MI:=ui ((zu n).1)
def ZK{n:Nat}:zw n (m+1)=(zu n).1 (zw n m):=rfl
@[go_sem]def XG(m:Nat):=vi (zu n) (zw n) m
def Fy:{B:(List jW)->Option (TL×Unit) //∀(a0:(List jW)),run (rz n) [.at []] (ini ((asA 0 (fun(b:TL)=>b.1.length) IJ).enc (a0,()) ()) 28 ((uf (aQL false jW.row) sM).enc (a0,())))=B a0}:=mB
def CA:=fu fun n=>(Fy n).1
def adH:∀(n:Nat)(a0:(List jW))(r:(TL×Unit)),CA n a0=some r->FnG fJ 167 ((asA 0 (fun(b:TL)=>b.1.length) IJ).enc (a0,()) ()) ((uf (aQL false jW.row) sM).enc (a0,())) (fun o H'=>o=.ret (sZ (F8.enc r.1 r.2))/\H'=(uf (aQL false jW.row) sM).enc r.1)
 |0,_,_,h=>by cases h
 |n+1,a0,r,h=>by
  exact vX (M:=rz n) ⟨jT,jU,pd _,pI _,rK,rL,sA,rX⟩ func167 rfl rfl (by simp only[go_sem,fO,fP,fK,fL,fQ,fR,fT,fU,fV,fM,fS,fW]) ((uf (aQL false jW.row) sM).nb _ _) ntmps167 results167 (fun J hs=>Yi hs) (((Fy n).2 a0).trans h)
@[reducible] def aqT:kK Int:=nh fJ f105 n (l1 fJ [.tmp 2] (lr .i64))
def Sx:Jx (aqT n) (lr .i64) 6:=mB
def qD:=fu fun n=>(Sx n).1
def apd:∀n:Nat,uj fJ 105 (lr .i64) (lr .i64) (qD n):=ww fun n=>uU (Sx n) (gd jT jU) func105 ntmps105 results105
@[go_sem]def Ek:ua:=⟨[],[],(zT (lA kW)::zK::l7 (zA::zK::zK::l7 (l7 (zA::zA::[])))),[],none,none⟩
@[reducible] def OQ:kK Int:=nh fJ f142 n (l1 fJ [.tmp 4] (lr .i64)) (qj:=oz [([0,1,0,1],Ek)])
@[go_sem]abbrev El(v0:List kj)(v1:kj)(v2 v3:Int):jS:=⟨(.kF false 1 (mp kX v0)::.str (sb v1)::mm (qA::.int .i64 v2::.int .i64 v3::mm (mm (qA::qA::[])))),[],0,[]⟩
abbrev zx:=(List kj)->kj->Int->Int->Option Int
abbrev adI(K:List Kt)(Z:zx):Prop:=∀v0 v1 v2 v3,run (OQ n) K (El v0 v1 v2 v3)=Z v0 v1 v2 v3
def wB:LB (adI n) [0,1,0,1] [.qg 0,.cut [1,1],.at [1,1]]:=mB
def wC:Nat->zx:=ui ((wB n).1)
def JO{n:Nat}:wC n (m+1)=(wB n).1 (wC n m):=rfl
@[go_sem]def XH(m:Nat):=vi (wB n) (wC n) m
def Fz:Ll (OQ n) (lA kW) mo 19:=mB
def CB:=fu fun n=>(Fz n).1
def adJ:∀n:Nat,uu fJ 142 (lA kW) mo (lr .i64) (CB n):=yu fun n=>we (Fz n) (gd jT jU) func142 ntmps142 results142
open Go.Proofs
@[reducible] def Lp:kK Int:=nh fJ f224 n (l1 fJ [.tmp 4] (lr .i64)) (qj:=oz [([0,1,0,1],Ek)])
abbrev ZL(K:List Kt)(Z:zx):Prop:=∀v0 v1 v2 v3,run (Lp n) K (El v0 v1 v2 v3)=Z v0 v1 v2 v3
def uV:LB (ZL n) [0,1,0,1] [.qg 0,.cut [1,1],.at [1,1]]:=mB
def uW:Nat->zx:=ui ((uV n).1)
def Hg{n:Nat}:uW n (m+1)=(uV n).1 (uW n m):=rfl
@[go_sem]def Va(m:Nat):=vi (uV n) (uW n) m
def C5:Ll (Lp n) (lA kW) mo 19:=mB
def Bc:=fu fun n=>(C5 n).1
def ZM:∀n:Nat,uu fJ 224 (lA kW) mo (lr .i64) (Bc n):=yu fun n=>we (C5 n) (gd jT jU) func224 ntmps224 results224
@[reducible] def avd:kK Bool:=nh fJ f196 n (l1 fJ [.tmp 2] mw)
def ZN:Jx (avd n) (lr .u8) 21:=mB
def Yp:=fu fun n=>(ZN n).1
def atv:∀n:Nat,uj fJ 196 (lr .u8) mw (Yp n):=ww fun n=>uU (ZN n) (gd jT jU) func196 ntmps196 results196
@[reducible] def ajR:kK kj:=nh fJ f241 n (l1 fJ [.tmp 2] (alE 274 (uL cS))) (cut:=Mh [([1,1],[0])])
def Ul:Jx (ajR n) mo 4:=mB
def Yq:=fu fun n=>(Ul n).1
def ahE:∀n:Nat,uj fJ 241 mo (alE 274 (uL cS)) (Yq n):=ww fun n=>uU (Ul n) (gd jT jU) func241 ntmps241 results241
def nY:xI:=(aCx [] (sub [0,1,0,1,1] ((f199.body).getD .skip)))
def zy:nY.ps.size=1/\∀j:Int,pV nY.js j=none:=⟨jN,fun j=>(by show pV [] j=none;unfold pV ay9;cases (j==0)<;>rfl)⟩
@[go_sem]def lc:=(tz (asW nY (alZ (lX 1 (Cq 7 kJ)))) (tz (Bq (aQP 2 kJ)) (tz ogM Bn)))
@[go_sem]def mG:=(tz (ogL nY (alZ (lX 1 (Cq 7 kJ)))) (tz (Bq (aQP 2 kJ)) (tz ogM Bn)))
def mh:kK (TD×(Bool×Unit)) where
 body:=.seq (Uk (sub [0,1,0,1,1] ((f199.body).getD .skip))) (ajO (sub [0,1,0,1,1] ((f199.body).getD .skip)))
 P:=fJ
 cl:=l6 []
 cd:=Bp []
 qj:=oz []
 cut:=Mh []
 n:=n
 out:=(fun _=>none)
 l1:=VT [] [] [0,1,2] 3 mG
 wx:=l2 []
def Q2:(mh n).P=fJ/\(mh n).cl=l6 []/\(mh n).cd=Bp []/\(mh n).qj=oz []/\(mh n).cut=Mh []/\(mh n).n=n/\(mh n).out=(fun _=>none)/\(mh n).l1=VT [] [] [0,1,2] 3 mG/\(mh n).wx=l2 []:=⟨rfl,rfl,rfl,rfl,rfl,rfl,rfl,rfl,rfl⟩
def Q3:(mh n).body=.seq (Uk (sub [0,1,0,1,1] ((f199.body).getD .skip))) (ajO (sub [0,1,0,1,1] ((f199.body).getD .skip))):=rfl
def Q4:gb (Uk (sub [0,1,0,1,1] ((f199.body).getD .skip))) (ajO (sub [0,1,0,1,1] ((f199.body).getD .skip)))=gb nY.assign nY.body:=jN
attribute [go_sem] Q2 Q3 zy
def D5:{B:kj->Ta->Option (TD×(Bool×Unit)) //∀(a0:kj)(o0:Ta),run (mh n) [.at [0],.rb,.at [1],.rd] {j9:=Uh ((alZ (lX 1 (Cq 7 kJ))).enc (lc.mg ((),(),o0,())) ()) [5] ((lW mo kJ).enc (lc.mg ((),(),o0,())) (a0,())),heap:=(lc.enc (lc.mg ((),(),o0,())) ((),(),o0,())),low:=(lc.enc (lc.mg ((),(),o0,())) ((),(),o0,())).length}=B a0 o0}:=mB
def Gc:=fu fun n=>(D5 n).1
def PZ:∀(n:Nat)(a0:kj)(o0:Ta)(r:(TD×(Bool×Unit))),Gc n a0 o0=some r->FnT fJ (VG fJ) ((lW mo kJ).enc (lc.mg ((),(),o0,())) (a0,())) (lc.enc (lc.mg ((),(),o0,())) ((),(),o0,())) (fun o H'=>o=.ret (sZ ((lW mw kJ).enc (mG.mg r.1) r.2))/\H'=mG.enc (mG.mg r.1) r.1)
 |0,_,_,_,h=>by cases h
 |n+1,a0,o0,r,h=>by
  exact am2 (M:=mh n) (lk:=nY) (j9:=((alZ (lX 1 (Cq 7 kJ))).enc (lc.mg ((),(),o0,())) ())) ⟨jT,jU,pd _,pI _,rK,rL,sA,rX⟩ Q4 (jN) ⟨jN,jN⟩ rfl (sy (fY (jI (jN)) (fZ (lc.sz _ _).symm)) _ ((lW mo kJ).nb _ _)) (fun x hx=>Ai (fY (jI (jN)) (fZ (lc.sz _ _).symm)) _ (lc.nb _ _ x hx)) (fun e J hs=>ag0 (js:=[]) (pos:=[]) (base:=[0,1,2]) (low:=3) (os:=mG) (e:=e) (J:=J) (r:=r) (by rfl) hs) (((D5 n).2 a0 o0).trans h)
@[reducible] def ax3:kK jW:=nh fJ f103 n (l1 fJ [.tmp 2] (alE 164 (uL jW.kv))) (cut:=Mh [([1,1],[0])])
def Vb:Jx (ax3 n) (kZ jW.kv) 4:=mB
def KQ:=fu fun n=>(Vb n).1
def akB:∀n:Nat,uj fJ 103 (kZ jW.kv) (alE 164 (uL jW.kv)) (KQ n):=ww fun n=>uU (Vb n) (gd jT jU) func103 ntmps103 results103
@[reducible] def aBe:kK (yB kn 13):=nh fJ f165 n (l1 fJ [.cell 0 237] (kZ (cA kn.kv 5 13)))
def Yr:SC0 (aBe n) 15:=by
 apply ga;simp (config:={maxSteps:=100000000}) only[go_sem,fO,fP,fK,fL,fQ,fR,fT,fU,fV,fM,fS,fW,f165,fN,mixed,Zy];exact rfl
def P0:=fu fun n=>(Yr n).1
def anB:∀n:Nat,aGa fJ 165 (kZ (cA kn.kv 5 13)) (P0 n):=aMX fun n=>aMW (Yr n) (gd jT jU) func165 ntmps165 results165
open Go.Proofs
def nS:xI:=(aCx [(1,.ret)] (sub [0,1,0,1,1] ((f109.body).getD .skip)))
def xS:nS.ps.size=2/\∀j:Int,pV nS.js j=bif j==0 then none else some .ret:=⟨jN,fun j=>rfl⟩
def n7:=(lW (lr .i64) (lW (kZ jW.kv) kJ))
def lu:=(tz (asW nS (Cq 3 (lX 1 (lX 2 (Cq 25 kJ))))) (tz (Bq (aQO (cI .i64) 1 kJ)) (tz (Bq (aQO cB 1 kJ)) Bn)))
def nf:=(tz (ogL nS (Cq 3 (lX 1 (lX 2 (Cq 25 kJ))))) (tz (Bq (aQO (cI .i64) 1 kJ)) (tz (Bq (aQO cB 1 kJ)) Bn)))
attribute [go_sem] n7 lu nf
def mS:kK (Tg×(Bool×Unit)) where
 body:=.seq (Uk (sub [0,1,0,1,1] ((f109.body).getD .skip))) (ajO (sub [0,1,0,1,1] ((f109.body).getD .skip)))
 P:=fJ
 cl:=l6 []
 cd:=Bp []
 qj:=oz []
 cut:=Mh []
 n:=n
 out:=(fun _=>none)
 l1:=VT [(1,.ret)] [] [0,1,2] 3 nf
 wx:=l2 []
def V2:(mS n).P=fJ/\(mS n).cl=l6 []/\(mS n).cd=Bp []/\(mS n).qj=oz []/\(mS n).cut=Mh []/\(mS n).n=n/\(mS n).out=(fun _=>none)/\(mS n).l1=VT [(1,.ret)] [] [0,1,2] 3 nf/\(mS n).wx=l2 []:=⟨rfl,rfl,rfl,rfl,rfl,rfl,rfl,rfl,rfl⟩
def V3:(mS n).body=.seq (Uk (sub [0,1,0,1,1] ((f109.body).getD .skip))) (ajO (sub [0,1,0,1,1] ((f109.body).getD .skip))):=rfl
def V4:gb (Uk (sub [0,1,0,1,1] ((f109.body).getD .skip))) (ajO (sub [0,1,0,1,1] ((f109.body).getD .skip)))=gb nS.assign nS.body:=jN
attribute [go_sem] V2 V3 xS
def AE:{B:Int->jW->Int->Bool->Option (Tg×(Bool×Unit)) //∀(a0:Int)(a1:jW)(o0:Int)(o1:Bool),run (mS n) [.at [0],.rb,.at [1],.rd] {j9:=Uh ((Cq 3 (lX 1 (lX 2 (Cq 25 kJ)))).enc (lu.mg ((),(o0,()),(o1,()),())) ()) [11,12] (n7.enc (lu.mg ((),(o0,()),(o1,()),())) (a0,a1,())),heap:=(lu.enc (lu.mg ((),(o0,()),(o1,()),())) ((),(o0,()),(o1,()),())),low:=(lu.enc (lu.mg ((),(o0,()),(o1,()),())) ((),(o0,()),(o1,()),())).length}=B a0 a1 o0 o1}:=mB
def xT:=fu fun n=>(AE n).1
def Vc:∀(n:Nat)(a0:Int)(a1:jW)(o0:Int)(o1:Bool)(r:(Tg×(Bool×Unit))),xT n a0 a1 o0 o1=some r->FnT fJ (VG fJ) (n7.enc (lu.mg ((),(o0,()),(o1,()),())) (a0,a1,())) (lu.enc (lu.mg ((),(o0,()),(o1,()),())) ((),(o0,()),(o1,()),())) (fun o H'=>o=.ret (sZ ((lW mw kJ).enc (nf.mg r.1) r.2))/\H'=nf.enc (nf.mg r.1) r.1)
 |0,_,_,_,_,_,h=>by cases h
 |n+1,a0,a1,o0,o1,r,h=>by
  exact am2 (M:=mS n) (lk:=nS) (j9:=((Cq 3 (lX 1 (lX 2 (Cq 25 kJ)))).enc (lu.mg ((),(o0,()),(o1,()),())) ())) ⟨jT,jU,pd _,pI _,rK,rL,sA,rX⟩ V4 (jN) ⟨jN,jN⟩ rfl (sy (fY (jI (jN)) (fZ (lu.sz _ _).symm)) _ (n7.nb _ _)) (fun x hx=>Ai (fY (jI (jN)) (fZ (lu.sz _ _).symm)) _ (lu.nb _ _ x hx)) (fun e J hs=>ag0 (js:=[(1,.ret)]) (pos:=[]) (base:=[0,1,2]) (low:=3) (os:=nf) (e:=e) (J:=J) (r:=r) (by rfl) hs) (((AE n).2 a0 a1 o0 o1).trans h)
@[reducible] def abw:kK Bool:=nh fJ f173 n (l1 fJ [.tmp 2] mw)
def C6:Jx (abw n) (kZ kp.kv) 6:=mB
def Bd:=fu fun n=>(C6 n).1
def ZP:∀n:Nat,uj fJ 173 (kZ kp.kv) mw (Bd n):=ww fun n=>uU (C6 n) (gd jT jU) func173 ntmps173 results173
@[reducible] def anC:kK kH:=nh fJ f219 n (l1 fJ [.tmp 2] (alE 259 (uL kH.kv))) (cut:=Mh [([1,1],[0])])
def MJ:Jx (anC n) (kZ kH.kv) 4:=mB
def Kz:=fu fun n=>(MJ n).1
def alR:∀n:Nat,uj fJ 219 (kZ kH.kv) (alE 259 (uL kH.kv)) (Kz n):=ww fun n=>uU (MJ n) (gd jT jU) func219 ntmps219 results219
@[reducible] def tH:kK (Tf×Unit):=nh fJ f261 n (aAm fJ [.tmp 2] 0 kW (rsA 0 (fun(b:Tf)=>b.1.length) F8))
def Lq:{B:kj->List kj->Option (Tf×Unit) //∀x xs,run (tH n) [.at []] {j9:=[(lA kW).enc (x::xs)]++fX 7 qA,heap:=[],low:=0}=B x xs}:=by
 apply ga;intro x xs;simp (config:={maxSteps:=100000000}) only[go_sem,fO,fP,fK,fL,fQ,fR,fT,fU,fV,fM,fS,fW,f261,fN,mixed];exact rfl
def ZQ(c:Nat):run (tH n) [.at []] {j9:=[.sV (.slice none 0 c)]++fX 7 qA,heap:=[],low:=0}=some (([],()),()):=by simp (config:={maxSteps:=100000000}) only[go_sem,fO,fP,fK,fL,fQ,fR,fT,fU,fV,fM,fS,fW,f261,fN,mixed]
def ZR(a:Addr)(c:Nat):run (tH n) [.at []] {j9:=[.sV (.slice (some a) 0 c)]++fX 7 qA,heap:=[],low:=0}=some (([],()),()):=by simp (config:={maxSteps:=100000000}) only[go_sem,fO,fP,fK,fL,fQ,fR,fT,fU,fV,fM,fS,fW,f261,fN,mixed]
def OR:Nat->(List kj)->Option (Tf×Unit)
 |0,_=>none
 |_+1,[]=>some (([],()),())
 |n+1,x::xs=>(Lq n).1 x xs
def ZS:∀(n:Nat)(a0:(List kj))(r:(Tf×Unit)),OR n a0=some r->FnG fJ 261 (((asT (lA kW) IJ):II Unit _).enc () (a0,())) (sM.enc ()) (fun o H'=>o=.ret (sZ ((rsA 0 (fun(b:Tf)=>b.1.length) F8).enc r.1 r.2))/\H'=(uf (aQL true kW) sM).enc r.1)
 |0,_,_,h=>by cases h
 |n+1,[],r,h=>by
  cases h
  exact ag4 fun base c=>by
   cases base with
   |none=>exact vX (M:=tH n) ⟨jT,jU,pd _,pI _,rK,rL,sA,rX⟩ func261 rfl rfl ⟨trivial,trivial⟩ (fun _ h=>by cases h) ntmps261 results261 (fun J hs=>aQM hs) (ZQ n c)
   |some a=>exact vX (M:=tH n) ⟨jT,jU,pd _,pI _,rK,rL,sA,rX⟩ func261 rfl rfl ⟨trivial,trivial⟩ (fun _ h=>by cases h) ntmps261 results261 (fun J hs=>aQM hs) (ZR n a c)
 |n+1,x::xs,r,h=>by
  exact vX (M:=tH n) ⟨jT,jU,pd _,pI _,rK,rL,sA,rX⟩ func261 rfl rfl ⟨(lA kW).nb 0 _,trivial⟩ (sM.nb _ _) ntmps261 results261 (fun J hs=>aQM hs) (((Lq n).2 x xs).trans h)
@[go_sem]def V5:ua:=⟨[],[],(zA::zK::zA::zK::lH (l7 (zA::zA::zA::zT (lA mI.row)::zK::zK::lH (l7 (l7 (l7 (zA::zA::zA::[]))))))),[oT kz.kv,oA kW],none,none⟩
@[go_sem]def V6:ua:=⟨[(3,1,true)],[],(zA::zA::zA::zK::lH (lH (l7 (l7 (l7 (zT (lA qH.row)::zK::zK::l7 (l7 (zA::zA::[])))))))),[oD,oA kW],none,none⟩
@[reducible] def MK:kK (List kj):=nh fJ f264 n (l1 fJ [.tmp 2] (lA kW)) (qj:=oz [([0,1,0,1,0,1,1,1,0,1,0,1,1],V5),([0,1,0,1,1,1,1,1,0,1,0,1,1],V6)])
abbrev V7(v0:List mI)(v1 v2:Int)(o0:kz)(r1:List kj)(c1:Nat):jS:=⟨(qA::.ptr 0 0::qA::.lR 1 c1::lK (mm (qA::qA::qA::.kF false 6 (mp mI.cells v0)::.int .i64 v1::.int .i64 v2::lK (mm (mm (mm (qA::qA::qA::[]))))))),[.cells (kz.cells o0),.lR true 1 (mp kX r1)],0,[]⟩
abbrev V8:List Kt:=[.qg 1,.cut [1,1,0,1,1,1,0,1,0,1,1],.at [1,1,0,1,1,1,0,1,0,1,1],.qg 0,.cut [1,1,1],.at [1,1,1]]
abbrev V9:=(List mI)->Int->Int->kz->(List kj)->Option (List kj)
abbrev alU(K:List Kt)(Z:V9):Prop:=∀v0 v1 v2 o0 r1 c1,c1=r1.length->run (MK n) K (V7 v0 v1 v2 o0 r1 c1)=Z v0 v1 v2 o0 r1
abbrev Wa(v0:List qH)(v1 v2:Int)(r1:List kj)(c1:Nat):jS:=⟨(qA::qA::qA::.lR 1 c1::lK (lK (mm (mm (mm (.kF false 15 (mp qH.cells v0)::.int .i64 v1::.int .i64 v2::mm (mm (qA::qA::[])))))))),[.vZ,.lR true 1 (mp kX r1)],0,[]⟩
abbrev Wb:=(List qH)->Int->Int->(List kj)->Option (List kj)
abbrev alV(K:List Kt)(Z:Wb):Prop:=∀v0 v1 v2 r1 c1,c1=r1.length->run (MK n) K (Wa v0 v1 v2 r1 c1)=Z v0 v1 v2 r1
attribute [go_sem] V7 V8 Wa
def AF:LB (alU n) [0,1,0,1,0,1,1,1,0,1,0,1,1] V8:=mB
def AG:Nat->V9:=ui ((AF n).1)
def Q5{n:Nat}:AG n (m+1)=(AF n).1 (AG n m):=rfl
@[go_sem]def afX(m:Nat):=vi (AF n) (AG n) m
def AH:LB (alV n) [0,1,0,1,1,1,1,1,0,1,0,1,1] [.qg 3,.qg 0,.cut [1,1,1],.at [1,1,1]]:=mB
def AI:Nat->Wb:=ui ((AH n).1)
def Q6{n:Nat}:AI n (m+1)=(AH n).1 (AI n m):=rfl
@[go_sem]def afY(m:Nat):=vi (AH n) (AI n) m
def ML:Jx (MK n) (kZ kz.kv) 61:=mB
def KA:=fu fun n=>(ML n).1
def alW:∀n:Nat,uj fJ 264 (kZ kz.kv) (lA kW) (KA n):=ww fun n=>uU (ML n) (gd jT jU) func264 ntmps264 results264
@[go_sem]def Um:ua:=⟨[],[],(zA::zA::zA::zK::zK::l7 (zA::zA::zT (lA jR.row)::zK::zK::l7 (zT (lA kW)::zK::zK::lH []))),[oK,oA kW],none,none⟩
@[go_sem]def Un:ua:=⟨[(4,1,true)],[],(zA::zA::zA::zK::zK::l7 (zA::zA::zT (lA jR.row)::zK::zK::lH (l7 (zA::zA::zA::[])))),[oK,oA kW],none,none⟩
@[reducible] def KR:kK (List kj):=nh fJ f55 n (l1 fJ [.tmp 2] (lA kW)) (qj:=oz [([0,1,1,0,0,1,1,0,0,1,0,1,1,1],Um),([0,1,0,1,1,1],Un)])
abbrev Uo(v0:List jR)(v1 v2:Int)(v3:List kj)(v4 v5:Int)(r0:List (kj×Bool))(r1:List kj)(c1:Nat):jS:=⟨(qA::qA::qA::.map 0::.lR 1 c1::mm (qA::qA::.kF false 4 (mp jR.cells v0)::.int .i64 v1::.int .i64 v2::mm (.kF false 1 (mp kX v3)::.int .i64 v4::.int .i64 v5::lK []))),[.map (mp GI r0),.lR true 1 (mp kX r1)],0,[]⟩
abbrev Up(m2:Nat):List Kt:=[.qg 2,.qg 1,.cut [1,1,1,0,0,1,0,1,1,1],.at [1,1,1,0,0,1,0,1,1,1],.lp m2 [0,1,0,1,1,1],.qg 0,.cut [1,1,1,1],.at [1,1,1,1]]
abbrev Uq:=(List jR)->Int->Int->(List kj)->Int->Int->Ta->(List kj)->Option (List kj)
abbrev ajS(K:List Kt)(Z:Uq):Prop:=∀v0 v1 v2 v3 v4 v5 r0 r1 c1,c1=r1.length->run (KR n) K (Uo v0 v1 v2 v3 v4 v5 r0 r1 c1)=Z v0 v1 v2 v3 v4 v5 r0 r1
abbrev Ur(v0:List jR)(v1 v2:Int)(r0:List (kj×Bool))(r1:List kj)(c1:Nat):jS:=⟨(qA::qA::qA::.map 0::.lR 1 c1::mm (qA::qA::.kF false 4 (mp jR.cells v0)::.int .i64 v1::.int .i64 v2::lK (mm (qA::qA::qA::[])))),[.map (mp GI r0),.lR true 1 (mp kX r1)],0,[]⟩
abbrev CC:=(List jR)->Int->Int->Ta->(List kj)->Option (List kj)
abbrev Jb(K:List Kt)(Z:CC):Prop:=∀v0 v1 v2 r0 r1 c1,c1=r1.length->run (KR n) K (Ur v0 v1 v2 r0 r1 c1)=Z v0 v1 v2 r0 r1
attribute [go_sem] Uo Up Ur
def ze:LB2 (Jb n) [0,1,0,1,1,1] [.qg 0,.cut [1,1,1,1],.at [1,1,1,1]] (ajS n) [0,1,1,0,0,1,1,0,0,1,0,1,1,1] Up:=mB
def CD(X2:CC):Nat->Uq:=ui ((ze n).1 X2)
def OS{n:Nat}(X2:CC):CD n X2 (m+1)=(ze n).1 X2 (CD n X2 m):=rfl
def adK{X2}(h2:Jb n (.lq m2 [0,1,0,1,1,1]::[.qg 0,.cut [1,1,1,1],.at [1,1,1,1]]) X2)(m:Nat):=aDI (ze n) h2 (CD n X2) m
def zf:LB (Jb n) [0,1,0,1,1,1] [.qg 0,.cut [1,1,1,1],.at [1,1,1,1]]:=by
 apply ga;intro m X0 ih v0 v1 v2 r0 r1 c1 ec1;subst ec1;simp (config:={maxSteps:=100000000}) only[go_sem,fO,fP,fK,fL,fQ,fR,fT,fU,fV,fM,fS,fW,f55,fN,mixed,adK n ih,ih];exact rfl
def CE:Nat->CC:=ui ((zf n).1)
def OT{n:Nat}:CE n (m+1)=(zf n).1 (CE n m):=rfl
@[go_sem]def adL(m:Nat):=vi (zf n) (CE n) m
def KS:Jx (KR n) (lA jR.row) 37:=mB
def Ak:=fu fun n=>(KS n).1
def Jc:∀n:Nat,uj fJ 55 (lA jR.row) (lA kW) (Ak n):=ww fun n=>uU (KS n) (gd jT jU) func55 ntmps55 results55
open Go.Proofs
def nB:xI:=(aCx [] (sub [0,1,0,1,1,1] ((f56.body).getD .skip)))
def wD:nB.ps.size=2/\∀j:Int,pV nB.js j=none:=⟨jN,fun j=>(by show pV [] j=none;unfold pV ay9;cases (j==0)<;>rfl)⟩
@[go_sem]def lg:=(tz (asW nB (Cq 3 (lX 1 (lX 2 (Cq 26 kJ))))) (tz (Bq (aQP 3 kJ)) (tz (Bq (alA 4 kJ)) (tz ogM (tz (ogA true kW) Bn)))))
@[go_sem]def mJ:=(tz (ogL nB (Cq 3 (lX 1 (lX 2 (Cq 26 kJ))))) (tz (Bq (aQP 3 kJ)) (tz (Bq (alA 4 kJ)) (tz ogM (tz (ogA true kW) Bn)))))
def mE:kK (Ti×(Bool×Unit)) where
 body:=.seq (Uk (sub [0,1,0,1,1,1] ((f56.body).getD .skip))) (ajO (sub [0,1,0,1,1,1] ((f56.body).getD .skip)))
 P:=fJ
 cl:=l6 []
 cd:=Bp []
 qj:=oz []
 cut:=Mh []
 n:=n
 out:=(fun _=>none)
 l1:=VT [] [] [0,1,2,3,4] 5 mJ
 wx:=l2 []
def Sy:(mE n).P=fJ/\(mE n).cl=l6 []/\(mE n).cd=Bp []/\(mE n).qj=oz []/\(mE n).cut=Mh []/\(mE n).n=n/\(mE n).out=(fun _=>none)/\(mE n).l1=VT [] [] [0,1,2,3,4] 5 mJ/\(mE n).wx=l2 []:=⟨rfl,rfl,rfl,rfl,rfl,rfl,rfl,rfl,rfl⟩
def Sz:(mE n).body=.seq (Uk (sub [0,1,0,1,1,1] ((f56.body).getD .skip))) (ajO (sub [0,1,0,1,1,1] ((f56.body).getD .skip))):=rfl
def SA:gb (Uk (sub [0,1,0,1,1,1] ((f56.body).getD .skip))) (ajO (sub [0,1,0,1,1,1] ((f56.body).getD .skip)))=gb nB.assign nB.body:=jN
attribute [go_sem] Sy Sz wD
def yN:{B:Int->jW->Ta->(List kj)->Option (Ti×(Bool×Unit)) //∀(a0:Int)(a1:jW)(o0:Ta)(o1:(List kj)),run (mE n) [.at [0],.rb,.at [1],.rd] {j9:=Uh ((Cq 3 (lX 1 (lX 2 (Cq 26 kJ)))).enc (lg.mg ((),(),(),o0,o1,())) ()) [10,11] (n7.enc (lg.mg ((),(),(),o0,o1,())) (a0,a1,())),heap:=(lg.enc (lg.mg ((),(),(),o0,o1,())) ((),(),(),o0,o1,())),low:=(lg.enc (lg.mg ((),(),(),o0,o1,())) ((),(),(),o0,o1,())).length}=B a0 a1 o0 o1}:=mB
def wE:=fu fun n=>(yN n).1
def Q7:∀(n:Nat)(a0:Int)(a1:jW)(o0:Ta)(o1:(List kj))(r:(Ti×(Bool×Unit))),wE n a0 a1 o0 o1=some r->FnT fJ (VG fJ) (n7.enc (lg.mg ((),(),(),o0,o1,())) (a0,a1,())) (lg.enc (lg.mg ((),(),(),o0,o1,())) ((),(),(),o0,o1,())) (fun o H'=>o=.ret (sZ ((lW mw kJ).enc (mJ.mg r.1) r.2))/\H'=mJ.enc (mJ.mg r.1) r.1)
 |0,_,_,_,_,_,h=>by cases h
 |n+1,a0,a1,o0,o1,r,h=>by
  exact am2 (M:=mE n) (lk:=nB) (j9:=((Cq 3 (lX 1 (lX 2 (Cq 26 kJ)))).enc (lg.mg ((),(),(),o0,o1,())) ())) ⟨jT,jU,pd _,pI _,rK,rL,sA,rX⟩ SA (jN) ⟨jN,jN⟩ rfl (sy (fY (jI (jN)) (fZ (lg.sz _ _).symm)) _ (n7.nb _ _)) (fun x hx=>Ai (fY (jI (jN)) (fZ (lg.sz _ _).symm)) _ (lg.nb _ _ x hx)) (fun e J hs=>ag0 (js:=[]) (pos:=[]) (base:=[0,1,2,3,4]) (low:=5) (os:=mJ) (e:=e) (J:=J) (r:=r) (by rfl) hs) (((yN n).2 a0 a1 o0 o1).trans h)
@[go_sem]def lM:=(tz (Bq (aQP 1 (aQP 2 (aQP 3 (lW (lr .i64) kJ))))) (tz (aqO (kZ jR.kv)) (tz (aqO (kZ jR.kv)) (tz ogM Bn))))
@[go_sem]abbrev CF(F:Option (T7×Unit))(b:Unit)(a:Unit):=F
@[go_sem]def Us(F:Option (T7×Unit)):=GR [] Bn kJ lM (lX 0 kJ) (CF F)
@[reducible] def ajT:kK (T7×Unit):=nh fJ f75 n (w9 fJ [.tmp 0] [.arg 0 [],.vA 0 0 [],.vA 0 1 [],.vA 0 2 []] [] 0 lM (lX 0 kJ))
def Ut:SX (ajT n) kJ Bn 6 CF:=mC
def Yt:=fu fun n=>(Ut n).1
def ahF:∀n:Nat,zt fJ 75 kJ Bn lM (lX 0 kJ) (CF (Yt n)):=VX fun n=>GC (Ut n) (gd jT jU) func75 ntmps75 results75
@[reducible] def aqU:kK Bool:=nh fJ f78 n (l1 fJ [.tmp 2] mw)
def ae3:Jx (aqU n) (kZ jR.kv) 8:=mB
def Fp:=fu fun n=>(ae3 n).1
def C7:∀n:Nat,uj fJ 78 (kZ jR.kv) mw (Fp n):=ww fun n=>uU (ae3 n) (gd jT jU) func78 ntmps78 results78
@[reducible] def ave:kK Int:=nh fJ f193 n (l1 fJ [.tmp 2] (lr .i64))
def akC:Jx (ave n) (lr .u8) 28:=mB
def Lr:=fu fun n=>(akC n).1
def Hh:∀n:Nat,uj fJ 193 (lr .u8) (lr .i64) (Lr n):=ww fun n=>uU (akC n) (gd jT jU) func193 ntmps193 results193
def MM:ua:=⟨[],[],(zK::l7 (l7 (zK::zK::zA::zK::wv (lH (l7 (l7 (l7 (zA::[])))))))),[oA kW],none,none⟩
def Yu:ua:=⟨[],[],(zK::l7 (l7 (zK::zK::zK::zK::wv (lH (l7 (l7 (l7 (zA::[])))))))),[oA kW],none,none⟩
def Yv:ua:=⟨[],[],(zK::zA::zA::zK::zK::zK::zK::wv (lH (lH (zA::zA::zA::[])))),[],none,none⟩
@[reducible] def Im:kK (List kj):=nh fJ f240 n (l1 fJ [.tmp 2] (lA kW)) (qj:=oz [([0,0,1,1,1,1,0,1,0,0,0,1,1,1,1,1,1,1,1,1,1,1,1],MM),([0,0,1,1,1,1,1,1,1,1,1,1,1,1],Yu),([0,0,1,1,1,1,1,1,1,1,1,1],MM),([0,1,0,1,1,1,1],Yv)])
attribute [go_sem] MM Yu Yv
abbrev Yw(v0:kj)(v1 v2:Int)(r0:List kj)(c0:Nat):jS:=⟨(.str (sb v0)::mm (mm (.lR 0 c0::.int .i64 v1::qA::.int .i64 v2::wu (lK (mm (mm (mm (qA::[])))))))),[.lR false 1 (mp kX r0)],0,[]⟩
abbrev Yx(m2:Nat):List Kt:=[.qg 6,.cut [1,1,1,1,1,0,1,0,0,0,1,1,1,1,1,1,1,1,1,1,1,1],.at [1,1,1,1,1,0,1,0,0,0,1,1,1,1,1,1,1,1,1,1,1,1],.qg 5,.lp m2 [0,0,1,1,1,1,1,1,1,1,1,1,1,1],.qg 4,.cut [1,1,1,1,1,1,1,1,1,1,1,1,1],.at [1,1,1,1,1,1,1,1,1,1,1,1,1]]
abbrev MN:=kj->Int->Int->(List kj)->Option (List kj)
abbrev Yy(K:List Kt)(Z:MN):Prop:=∀v0 v1 v2 r0 c0,c0=r0.length->run (Im n) K (Yw v0 v1 v2 r0 c0)=Z v0 v1 v2 r0
abbrev Yz(v0:kj)(v1 v2 v3:Int)(r0:List kj)(c0:Nat):jS:=⟨(.str (sb v0)::mm (mm (.lR 0 c0::.int .i64 v1::.int .i64 v2::.int .i64 v3::wu (lK (mm (mm (mm (qA::[])))))))),[.lR false 1 (mp kX r0)],0,[]⟩
abbrev Gd:List Kt:=[.qg 4,.cut [1,1,1,1,1,1,1,1,1,1,1,1,1],.at [1,1,1,1,1,1,1,1,1,1,1,1,1]]
abbrev Ge:=kj->Int->Int->Int->(List kj)->Option (List kj)
abbrev MO(K:List Kt)(Z:Ge):Prop:=∀v0 v1 v2 v3 r0 c0,c0=r0.length->run (Im n) K (Yz v0 v1 v2 v3 r0 c0)=Z v0 v1 v2 v3 r0
abbrev YA:List Kt:=[.qg 2,.cut [1,1,1,1,1,1,1,1,1,1,1],.at [1,1,1,1,1,1,1,1,1,1,1]]
abbrev YB(v0:kj)(v1 v2 v3 v4:Int):jS:=⟨(.str (sb v0)::qA::qA::.int .i64 v1::.int .i64 v2::.int .u8 v3::.int .i64 v4::wu (lK (lK (qA::qA::qA::[])))),[],0,[]⟩
abbrev YC:=kj->Int->Int->Int->Int->Option (List kj)
abbrev anD(K:List Kt)(Z:YC):Prop:=∀v0 v1 v2 v3 v4,run (Im n) K (YB v0 v1 v2 v3 v4)=Z v0 v1 v2 v3 v4
attribute [go_sem] Yw Yx Yz Gd YA YB
def MP:LB2 (MO n) [0,0,1,1,1,1,1,1,1,1,1,1,1,1] Gd (Yy n) [0,0,1,1,1,1,0,1,0,0,0,1,1,1,1,1,1,1,1,1,1,1,1] Yx:=mB
def MQ(X2:Ge):Nat->MN:=ui ((MP n).1 X2)
def aBM{n:Nat}(X2:Ge):MQ n X2 (m+1)=(MP n).1 X2 (MQ n X2 m):=rfl
def ahG{X2}(h2:MO n (.lq m2 [0,0,1,1,1,1,1,1,1,1,1,1,1,1]::Gd) X2)(m:Nat):=aDI (MP n) h2 (MQ n X2) m
def MR:LB (MO n) [0,0,1,1,1,1,1,1,1,1,1,1,1,1] Gd:=by
 apply ga;intro m X0 ih v0 v1 v2 v3 r0 c0 ec0;subst ec0;simp (config:={maxSteps:=100000000}) only[go_sem,fO,fP,fK,fL,fQ,fR,fT,fU,fV,fM,fS,fW,f240,fN,mixed,ahG n ih,ih];exact rfl
def MS:Nat->Ge:=ui ((MR n).1)
def aBN{n:Nat}:MS n (m+1)=(MR n).1 (MS n m):=rfl
@[go_sem]def ahH(m:Nat):=vi (MR n) (MS n) m
def MT:LB (Yy n) [0,0,1,1,1,1,1,1,1,1,1,1] YA:=mB
def MU:Nat->MN:=ui ((MT n).1)
def aBO{n:Nat}:MU n (m+1)=(MT n).1 (MU n m):=rfl
@[go_sem]def ahI(m:Nat):=vi (MT n) (MU n) m
def MV:LB (anD n) [0,1,0,1,1,1,1] [.qg 0,.cut [1,1,1,1,1],.at [1,1,1,1,1]]:=mB
def MW:Nat->YC:=ui ((MV n).1)
def aBP{n:Nat}:MW n (m+1)=(MV n).1 (MW n m):=rfl
@[go_sem]def ahJ(m:Nat):=vi (MV n) (MW n) m
def abx:Jx (Im n) mo 106:=mB
def ahK:=fu fun n=>(abx n).1
def anE:∀n:Nat,uj fJ 240 mo (lA kW) (ahK n):=ww fun n=>uU (abx n) (gd jT jU) func240 ntmps240 results240
@[reducible] def ape:kK Bool:=nh fJ f140 n (l1 fJ [.tmp 2] mw)
def aby:Jx (ape n) (kZ jR.kv) 12:=mB
def C8:=fu fun n=>(aby n).1
def BG:∀n:Nat,uj fJ 140 (kZ jR.kv) mw (C8 n):=ww fun n=>uU (aby n) (gd jT jU) func140 ntmps140 results140
open Go.Proofs
@[reducible] def sw:kK (Tf×Unit):=nh fJ f37 n (aAm fJ [.tmp 2] 0 kW (rsA 0 (fun(b:Tf)=>b.1.length) F8))
def IN:{B:kj->List kj->Option (Tf×Unit) //∀x xs,run (sw n) [.at []] {j9:=[(lA kW).enc (x::xs)]++fX 7 qA,heap:=[],low:=0}=B x xs}:=by
 apply ga;intro x xs;simp (config:={maxSteps:=100000000}) only[go_sem,fO,fP,fK,fL,fQ,fR,fT,fU,fV,fM,fS,fW,f37,fN,mixed];exact rfl
def Wc(c:Nat):run (sw n) [.at []] {j9:=[.sV (.slice none 0 c)]++fX 7 qA,heap:=[],low:=0}=some (([],()),()):=by simp (config:={maxSteps:=100000000}) only[go_sem,fO,fP,fK,fL,fQ,fR,fT,fU,fV,fM,fS,fW,f37,fN,mixed]
def Wd(a:Addr)(c:Nat):run (sw n) [.at []] {j9:=[.sV (.slice (some a) 0 c)]++fX 7 qA,heap:=[],low:=0}=some (([],()),()):=by simp (config:={maxSteps:=100000000}) only[go_sem,fO,fP,fK,fL,fQ,fR,fT,fU,fV,fM,fS,fW,f37,fN,mixed]
def tI:Nat->(List kj)->Option (Tf×Unit)
 |0,_=>none
 |_+1,[]=>some (([],()),())
 |n+1,x::xs=>(IN n).1 x xs
def AJ:∀(n:Nat)(a0:(List kj))(r:(Tf×Unit)),tI n a0=some r->FnG fJ 37 (((asT (lA kW) IJ):II Unit _).enc () (a0,())) (sM.enc ()) (fun o H'=>o=.ret (sZ ((rsA 0 (fun(b:Tf)=>b.1.length) F8).enc r.1 r.2))/\H'=(uf (aQL true kW) sM).enc r.1)
 |0,_,_,h=>by cases h
 |n+1,[],r,h=>by
  cases h
  exact ag4 fun base c=>by
   cases base with
   |none=>exact vX (M:=sw n) ⟨jT,jU,pd _,pI _,rK,rL,sA,rX⟩ func37 rfl rfl ⟨trivial,trivial⟩ (fun _ h=>by cases h) ntmps37 results37 (fun J hs=>aQM hs) (Wc n c)
   |some a=>exact vX (M:=sw n) ⟨jT,jU,pd _,pI _,rK,rL,sA,rX⟩ func37 rfl rfl ⟨trivial,trivial⟩ (fun _ h=>by cases h) ntmps37 results37 (fun J hs=>aQM hs) (Wd n a c)
 |n+1,x::xs,r,h=>by
  exact vX (M:=sw n) ⟨jT,jU,pd _,pI _,rK,rL,sA,rX⟩ func37 rfl rfl ⟨(lA kW).nb 0 _,trivial⟩ (sM.nb _ _) ntmps37 results37 (fun J hs=>aQM hs) (((IN n).2 x xs).trans h)
@[reducible] def sx:kK (TH×Unit):=nh fJ f38 n (aAm fJ [.tmp 2] 0 jR.row (rsA 0 (fun(b:TH)=>b.1.length) F8))
def IO:{B:jR->List jR->Option (TH×Unit) //∀x xs,run (sx n) [.at []] {j9:=[(lA jR.row).enc (x::xs)]++fX 7 qA,heap:=[],low:=0}=B x xs}:=by
 apply ga;intro x xs;simp (config:={maxSteps:=100000000}) only[go_sem,fO,fP,fK,fL,fQ,fR,fT,fU,fV,fM,fS,fW,f38,fN,mixed];exact rfl
def We(c:Nat):run (sx n) [.at []] {j9:=[.sV (.slice none 0 c)]++fX 7 qA,heap:=[],low:=0}=some (([],()),()):=by simp (config:={maxSteps:=100000000}) only[go_sem,fO,fP,fK,fL,fQ,fR,fT,fU,fV,fM,fS,fW,f38,fN,mixed]
def Wf(a:Addr)(c:Nat):run (sx n) [.at []] {j9:=[.sV (.slice (some a) 0 c)]++fX 7 qA,heap:=[],low:=0}=some (([],()),()):=by simp (config:={maxSteps:=100000000}) only[go_sem,fO,fP,fK,fL,fQ,fR,fT,fU,fV,fM,fS,fW,f38,fN,mixed]
def Ls:Nat->(List jR)->Option (TH×Unit)
 |0,_=>none
 |_+1,[]=>some (([],()),())
 |n+1,x::xs=>(IO n).1 x xs
def Wg:∀(n:Nat)(a0:(List jR))(r:(TH×Unit)),Ls n a0=some r->FnG fJ 38 (((asT (lA jR.row) IJ):II Unit _).enc () (a0,())) (sM.enc ()) (fun o H'=>o=.ret (sZ ((rsA 0 (fun(b:TH)=>b.1.length) F8).enc r.1 r.2))/\H'=(uf (aQL true jR.row) sM).enc r.1)
 |0,_,_,h=>by cases h
 |n+1,[],r,h=>by
  cases h
  exact ag4 fun base c=>by
   cases base with
   |none=>exact vX (M:=sx n) ⟨jT,jU,pd _,pI _,rK,rL,sA,rX⟩ func38 rfl rfl ⟨trivial,trivial⟩ (fun _ h=>by cases h) ntmps38 results38 (fun J hs=>aQM hs) (We n c)
   |some a=>exact vX (M:=sx n) ⟨jT,jU,pd _,pI _,rK,rL,sA,rX⟩ func38 rfl rfl ⟨trivial,trivial⟩ (fun _ h=>by cases h) ntmps38 results38 (fun J hs=>aQM hs) (Wf n a c)
 |n+1,x::xs,r,h=>by
  exact vX (M:=sx n) ⟨jT,jU,pd _,pI _,rK,rL,sA,rX⟩ func38 rfl rfl ⟨(lA jR.row).nb 0 _,trivial⟩ (sM.nb _ _) ntmps38 results38 (fun J hs=>aQM hs) (((IO n).2 x xs).trans h)
@[go_sem]def j4:=(tz (Bq (alS 141 0 (alA 1 (lW (lA jR.row) (lW mw kJ))))) (tz ogB Bn))
@[go_sem]abbrev Be(F:(List jR)->Bool->kj->Option TX)(b:T9)(a:Unit):=F b.1.1 b.1.2.1 b.2.1
@[go_sem]def OU(F:(List jR)->Bool->kj->Option TX):=GR [.arg 0 [],.vA 0 1 []] j4 (lX 0 kJ) j4 (lW (lr .i64) kJ) (Be F)
@[reducible] def afZ:kK TX:=nh fJ f186 n (w9 fJ [.tmp 2] [] [0,1] 2 j4 (lW (lr .i64) kJ))
def OV:SX (afZ n) (lX 0 kJ) j4 8 Be:=mC
def Uu:=fu fun n=>(OV n).1
def adM:∀n:Nat,zt fJ 186 (lX 0 kJ) j4 j4 (lW (lr .i64) kJ) (Be (Uu n)):=VX fun n=>GC (OV n) (gd jT jU) func186 ntmps186 results186
@[go_sem]def uk:=(lW (lr .i64) (alK (.sV .nilIface) aLC kJ))
@[go_sem]abbrev uE(F:kj->(List jR)->Bool->kj->Option TX)(b:T9)(a:(kj×Unit)):=F a.1 b.1.1 b.1.2.1 b.2.1
@[go_sem]def D6(F:kj->(List jR)->Bool->kj->Option TX):=GR [.arg 0 [],.vA 0 1 []] j4 (lX 0 (lW mo kJ)) j4 uk (uE F)
@[reducible] def Q8:kK TX:=nh fJ f187 n (w9 fJ [.tmp 4,.tmp 5] [] [0,1] 2 j4 uk) (cl:=l6 [(231,Ga (IM n))])
def D7:SX (Q8 n) (lX 0 (lW mo kJ)) j4 19 uE:=mC
def Gf:=fu fun n=>(D7 n).1
def P1:∀n:Nat,zt fJ 187 (lX 0 (lW mo kJ)) j4 j4 uk (uE (Gf n)):=VX fun n=>GC (D7 n) (gd (jQ (mV (fun b a r h=>(Ss n) b.1.1 b.1.2.1 b.2.1 r h)) jT) jU) func187 ntmps187 results187
@[reducible] def aqV:kK Bool:=nh fJ f127 n (l1 fJ [.tmp 2] mw)
def ae4:Jx (aqV n) (lr .i64) 17:=mB
def Qx:=fu fun n=>(ae4 n).1
def P2:∀n:Nat,uj fJ 127 (lr .i64) mw (Qx n):=ww fun n=>uU (ae4 n) (gd jT jU) func127 ntmps127 results127
def JP:ua:=⟨[],[],(zK::zA::zK::zK::lH (l7 (l7 []))),[oA Syntax.row],none,none⟩
@[reducible] def qv:kK (Tt×Unit):=nh fJ f315 n (ao4 fJ [] (uf (aQL false Syntax.row) sM) F8 1) (qj:=oz [([0,1],JP)]) (uz:=l2 []) (uC:=l2 [])
def abz:so (qv n) [0,0,1,0,0,1]=true:=jN
def abA:xR (qv n) [0,0,1,0,0,1] 6 13 7 13 10 13 11 13/\xR (qv n) [0,0,1,0,0,1] 12 13 13 14 6 15 7 15/\xR (qv n) [0,0,1,0,0,1] 10 15 11 15 12 15 13 15/\Mt (qv n) [0,0,1,0,0,1] 14 15=true:=⟨⟨jN,jN,jN,jN⟩,⟨jN,jN,jN,jN⟩,⟨jN,jN,jN,jN⟩,jN⟩
attribute [go_sem] abz abA JP
@[go_sem]abbrev JQ(v0 v1:Int)(r0:List Syntax)(c0:Nat):jS:=⟨(.lR 0 c0::qA::.int .i64 v0::.int .i64 v1::lK (mm (mm []))),[.lR false 8 (mp Syntax.cells r0)],1,[]⟩
abbrev JR:=Int->Int->(List Syntax)->Option (Tt×Unit)
abbrev ZT(K:List Kt)(Z:JR):Prop:=∀v0 v1 r0 c0,c0=r0.length->run (qv n) K (JQ v0 v1 r0 c0)=Z v0 v1 r0
def B3:LB (ZT n) [0,1] [.qg 0]:=mB
def B4:Nat->JR:=ui ((B3 n).1)
def atw{n:Nat}:B4 n (m+1)=(B3 n).1 (B4 n m):=rfl
@[go_sem]def Vd(m:Nat):=vi (B3 n) (B4 n) m
def Lt:{B:(List Syntax)->Option (Tt×Unit) //∀(a0:(List Syntax)),run (qv n) [.at []] (ini ((asA 0 (fun(b:Tt)=>b.1.length) IJ).enc (a0,()) ()) 28 ((uf (aQL false Syntax.row) sM).enc (a0,())))=B a0}:=mB
def OW:=fu fun n=>(Lt n).1
def ZU:∀(n:Nat)(a0:(List Syntax))(r:(Tt×Unit)),OW n a0=some r->FnG fJ 315 ((asA 0 (fun(b:Tt)=>b.1.length) IJ).enc (a0,()) ()) ((uf (aQL false Syntax.row) sM).enc (a0,())) (fun o H'=>o=.ret (sZ (F8.enc r.1 r.2))/\H'=(uf (aQL false Syntax.row) sM).enc r.1)
 |0,_,_,h=>by cases h
 |n+1,a0,r,h=>by
  exact vX (M:=qv n) ⟨jT,jU,pd _,pI _,rK,rL,sA,rX⟩ func315 rfl rfl (by simp only[go_sem,fO,fP,fK,fL,fQ,fR,fT,fU,fV,fM,fS,fW]) ((uf (aQL false Syntax.row) sM).nb _ _) ntmps315 results315 (fun J hs=>Yi hs) (((Lt n).2 a0).trans h)
open Go.Proofs
def abB:ua:=⟨[(3,1,true)],[],(zA::zA::zA::zK::l7 (zA::zT (lA j7.row)::zK::zK::lH (lH (l7 (l7 (zA::zA::zA::[])))))),[oD,oA kW],none,none⟩
@[reducible] def KB:kK kj:=nh fJ f234 n (l1 fJ [.tmp 2] mo) (cl:=l6 [(170,nq (lr .i64) mo (strconv_Itoa n)),(260,nP (lA kW) mo mo (strings_Join n))]) (cd:=Bp [(170,pR (nq (lr .i64) mo (strconv_Itoa n)))]) (qj:=oz [([0,1,0,1,1,1],abB)]) (uz:=l2 []) (uC:=l2 [])
def aqW:so (KB n) [1,1,1,1,0,1,0,0,1,1,0,0,1,0,1,1,1]=true:=jN
def aqX:auY (KB n) [1,1,1,1,0,1,0,0,1,1,0,0,1,0,1,1,1] 2 9 5 9:=⟨jN,jN⟩
attribute [go_sem] aqW aqX abB
@[go_sem]abbrev abC(v0:List j7)(v1 v2:Int)(r1:List kj)(c1:Nat):jS:=⟨(qA::qA::qA::.lR 1 c1::mm (qA::.kF false 2 (mp j7.cells v0)::.int .i64 v1::.int .i64 v2::lK (lK (mm (mm (qA::qA::qA::[])))))),[.vZ,.lR true 1 (mp kX r1)],0,[]⟩
abbrev abD:=(List j7)->Int->Int->(List kj)->Option kj
abbrev apf(K:List Kt)(Z:abD):Prop:=∀v0 v1 v2 r1 c1,c1=r1.length->run (KB n) K (abC v0 v1 v2 r1 c1)=Z v0 v1 v2 r1
def P3:LB (apf n) [0,1,0,1,1,1] [.qg 0,.cut [1,1,1,1],.at [1,1,1,1]]:=mB
def P4:Nat->abD:=ui ((P3 n).1)
def aDO{n:Nat}:P4 n (m+1)=(P3 n).1 (P4 n m):=rfl
@[go_sem]def ajU(m:Nat):=vi (P3 n) (P4 n) m
def ae5:Jx (KB n) (kZ jX.kv) 55:=mB
def ZV:=fu fun n=>(ae5 n).1
def abE:∀n:Nat,uj fJ 234 (kZ jX.kv) mo (ZV n):=ww fun n=>uU (ae5 n) (gd (jQ (lB (Kx n)) (jQ (lw (St n)) jT)) (lC (nu (Kx n)) jU)) func234 ntmps234 results234
@[reducible] def ajV:kK Int:=nh fJ f302 n (l1 fJ [.tmp 4] (lr .i64)) (cl:=l6 [(143,nP mo (lr .u8) (lr .i64) (C3 n))])
def Uv:Ll (ajV n) mo (lr .u8) 8:=mB
def strings_IndexByte:=fu fun n=>(Uv n).1
def Q9:∀n:Nat,uu fJ 302 mo (lr .u8) (lr .i64) (strings_IndexByte n):=yu fun n=>we (Uv n) (gd (jQ (lw (Mi n)) jT) jU) func302 ntmps302 results302
@[reducible] def ZW:kK Bool:=nh fJ f303 n (l1 fJ [.tmp 2] mw)
def JS:Jx (ZW n) (lr .i32) 17:=mB
def MX:=fu fun n=>(JS n).1
def XI:∀n:Nat,uj fJ 303 (lr .i32) mw (MX n):=ww fun n=>uU (JS n) (gd jT jU) func303 ntmps303 results303
@[reducible] def Ve:kK Bool:=nh fJ f277 n (l1 fJ [.tmp 2] mw)
def Gg:Jx (Ve n) (lr .i64) 5:=mB
def strings_shouldUseASCIISet:=fu fun n=>(Gg n).1
def SB:∀n:Nat,uj fJ 277 (lr .i64) mw (strings_shouldUseASCIISet n):=ww fun n=>uU (Gg n) (gd jT jU) func277 ntmps277 results277
@[go_sem]def kD:=(tz (Bq (aQO Syntax.kv 8 kJ)) (tz (Bq (aQO (cI .i64) 1 kJ)) (tz (Bq (aQO (cI .i64) 1 kJ)) Bn)))
@[reducible] def Em:kK (Tl×Unit):=nh fJ f41 n (w9 fJ [] [] [0,1,2] 3 kD kJ)
def Wh:{B:Syntax->Int->Int->Option (Tl×Unit) //∀(o0:Syntax)(o1:Int)(o2:Int),run (Em n) [.kE (ue (Em n) [0]) ((ue (Em n) [0]).toList.drop 1),.cut [1],.at [1]] (jS.put {j9:=((lX 0 (lX 1 (lX 2 kJ))).enc (kD.mg ((o0,()),(o1,()),(o2,()),())) ())++fX (15-((lX 0 (lX 1 (lX 2 kJ))).enc (kD.mg ((o0,()),(o1,()),(o2,()),())) ()).length) qA,heap:=(kD.enc (kD.mg ((o0,()),(o1,()),(o2,()),())) ((o0,()),(o1,()),(o2,()),())),low:=(kD.enc (kD.mg ((o0,()),(o1,()),(o2,()),())) ((o0,()),(o1,()),(o2,()),())).length} (some 5) (.sV .nilIface))=B o0 o1 o2}:=mB
def Io:=fu fun n=>(Wh n).1
def ajW:∀(n:Nat)(o0:Syntax)(o1:Int)(o2:Int)(r:(Tl×Unit)),Io n o0 o1 o2=some r->FnT fJ (auO fJ 41) ((lX 0 (lX 1 (lX 2 kJ))).enc (kD.mg ((o0,()),(o1,()),(o2,()),())) ()) (kD.enc (kD.mg ((o0,()),(o1,()),(o2,()),())) ((o0,()),(o1,()),(o2,()),())) (fun o H'=>o=(enR kD kJ r).1/\H'=(enR kD kJ r).2)
 |0,_,_,_,_,h=>by cases h
 |n+1,o0,o1,o2,r,h=>by
  exact ank (M:=Em n) (p1:=[]) (b1:=[0,1,2]) (args:=((lX 0 (lX 1 (lX 2 kJ))).enc (kD.mg ((o0,()),(o1,()),(o2,()),())) ())) ⟨jT,jU,pd _,pI _,rK,rL,sA,rX⟩ func41 rfl (jN) (sy (fY (jI (jN)) (fZ (kD.sz _ _).symm)) _ ((lX 0 (lX 1 (lX 2 kJ))).nb (kD.mg ((o0,()),(o1,()),(o2,()),())) ())) (fun x hx=>Ai (fY (jI (jN)) (fZ (kD.sz _ _).symm)) _ (kD.nb _ _ x hx)) ntmps41 results41 (low:=3) (by rfl) rfl (((Wh n).2 o0 o1 o2).trans h)
@[go_sem]def j1:=(lW (ZA 85 (kZ kf.kv)) kJ)
@[go_sem]abbrev KC(F:kf->Option (Unit×T8))(b:Unit)(a:T8):=F a.1
@[go_sem]def ae6(F:kf->Option (Unit×T8)):=GR [] Bn j1 Bn (lW (kZ kf.kv) kJ) (KC F)
@[reducible] def aqY:kK (Unit×T8):=nh fJ f42 n (w9 fJ [.cell 2 85] [] [] 0 Bn (lW (kZ kf.kv) kJ))
def ae7:SX (aqY n) j1 Bn 14 KC:=mC
def akD:=fu fun n=>(ae7 n).1
def apg:∀n:Nat,zt fJ 42 j1 Bn Bn (lW (kZ kf.kv) kJ) (KC (akD n)):=VX fun n=>GC (ae7 n) (gd jT jU) func42 ntmps42 results42
open Go.Proofs
@[reducible] def MY:kK Bool:=nh fJ f280 n (l1 fJ [.tmp 4] mw)
def BH:Ll (MY n) mo mo 18:=mB
def C9:=fu fun n=>(BH n).1
def Mj:∀n:Nat,uu fJ 280 mo mo mw (C9 n):=yu fun n=>we (BH n) (gd jT jU) func280 ntmps280 results280
@[go_sem]def Lu:ua:=⟨[],[],(zK::l7 (zK::lH (lH (l7 (l7 (l7 (zA::[]))))))),[oC [zK,zK,zK,zK,zK],oK,oK,oK],none,none⟩
@[go_sem]def k8:=(tz (Bq (lW mo (lW (lr .i64) (aQP 1 (aQP 2 (aQP 3 kJ)))))) (tz ogM (tz ogM (tz ogM Bn))))
@[go_sem]def oW:=(lW (lr .i64) (lW (lr .i64) (lW (lr .i64) kJ)))
@[go_sem]abbrev pu(F:kj->Int->Ta->Ta->Ta->Option TG)(b:To)(a:Unit):=F b.1.1 b.1.2.1 b.2.1 b.2.2.1 b.2.2.2.1
@[go_sem]def wF(F:kj->Int->Ta->Ta->Ta->Option TG):=GR [.arg 0 [],.vA 0 2 [],.vA 0 3 [],.vA 0 4 []] k8 (lX 0 kJ) k8 oW (pu F)
@[reducible] def En:kK TG:=nh fJ f200 n (w9 fJ [.tmp 2,.tmp 3,.tmp 4] [] [0,1,2,3] 4 k8 oW) (qj:=oz [([0,1,0,1],Lu)]) (uz:=l2 []) (uC:=l2 [])
@[go_sem]def adN:aF9 (En n) [0,0,0,1,0,0,1,0,1] [0,0,1] [0,0,1,0,0,1,0,0,1,0,1] [0,1,1]:=⟨jN,jN,jN,jN⟩
@[go_sem]abbrev Lv(v0:Int)(v1:kj)(v2:Int)(r1 r2 r3:List (kj×Bool)):jS:=⟨(.ptr 0 0::mm (.int .i64 v0::lK (lK (mm (mm (mm (qA::[]))))))),[.cells [.str (sb v1),.int .i64 v2,.map 1,.map 2,.map 3],.map (mp GI r1),.map (mp GI r2),.map (mp GI r3)],4,[]⟩
abbrev pJ:=Int->kj->Int->Ta->Ta->Ta->Option TG
abbrev abF(K:List Kt)(Z:pJ):Prop:=∀v0 v1 v2 r1 r2 r3,run (En n) K (Lv v0 v1 v2 r1 r2 r3)=Z v0 v1 v2 r1 r2 r3
def Da:LB (abF n) [0,1,0,1] [.qg 0,.cut [1,1],.at [1,1]]:=mB
def Db:Nat->pJ:=ui ((Da n).1)
def aup{n:Nat}:Db n (m+1)=(Da n).1 (Db n m):=rfl
@[go_sem]def Wi(m:Nat):=vi (Da n) (Db n) m
def MZ:SX (En n) (lX 0 kJ) k8 51 pu:=mC
def Ra:=fu fun n=>(MZ n).1
def abG:∀n:Nat,zt fJ 200 (lX 0 kJ) k8 k8 oW (pu (Ra n)):=VX fun n=>GC (MZ n) (gd jT jU) func200 ntmps200 results200
@[go_sem]def lF:=(tz (Bq (lX 1 kJ)) (tz (Bq (aQO jP.kv 6 kJ)) Bn))
@[reducible] def XJ:kK TU:=nh fJ f83 n (w9 fJ [] [] [0,1] 2 lF kJ)
def IP:{B:jP->Option TU //∀(o0:jP),run (XJ n) [.at []] (axT (lX 0 kJ) lF ((),(o0,()),()) () 8)=B o0}:=mB
def Dc:=fu fun n=>(IP n).1
def Wj:∀(n:Nat)(o0:jP)(r:TU),Dc n o0=some r->SD fJ 83 (lX 0 kJ) lF ((),(o0,()),()) () lF kJ r
 |0,_,_,h=>by cases h
 |n+1,o0,r,h=>by
  exact okD (((IP n).2 o0).trans h) (gd jT jU) func83 ntmps83 results83
@[reducible] def FA:kK lz:=nh fJ f94 n (l1 fJ [.cell 2 170] (kZ lz.kv)) (uz:=l2 []) (uC:=l2 [])
@[go_sem]def af0:so (FA n) [0,1]=true:=jN
@[go_sem]def af1:xR (FA n) [0,1] 3 10 7 10 8 10 9 10:=⟨jN,jN,jN,jN⟩
def OX:Jx (FA n) (uL jP.kv) 13:=mB
def nr:=fu fun n=>(OX n).1
def mO:∀n:Nat,uj fJ 94 (uL jP.kv) (kZ lz.kv) (nr n):=ww fun n=>uU (OX n) (gd jT jU) func94 ntmps94 results94
@[reducible] def qN:kK T16:=nh fJ f247 n (aDy fJ [.tmp 2] 0 jX.row (rsA 0 (fun(b:(Tk×Unit))=>b.1.length) F8))
def EX:{B:jX->List jX->Option T16 //∀x xs,run (qN n) [.at []] {j9:=[(lA jX.row).enc (x::xs)]++fX 7 qA,heap:=[],low:=0}=B x xs}:=by
 apply ga;intro x xs;simp (config:={maxSteps:=100000000}) only[go_sem,fO,fP,fK,fL,fQ,fR,fT,fU,fV,fM,fS,fW,f247,fN,mixed];exact rfl
def Rb(c:Nat):run (qN n) [.at []] {j9:=[.sV (.slice none 0 c)]++fX 7 qA,heap:=[],low:=0}=some (([],()),()):=by simp (config:={maxSteps:=100000000}) only[go_sem,fO,fP,fK,fL,fQ,fR,fT,fU,fV,fM,fS,fW,f247,fN,mixed]
def Rc(a:Addr)(c:Nat):run (qN n) [.at []] {j9:=[.sV (.slice (some a) 0 c)]++fX 7 qA,heap:=[],low:=0}=some (([],()),()):=by simp (config:={maxSteps:=100000000}) only[go_sem,fO,fP,fK,fL,fQ,fR,fT,fU,fV,fM,fS,fW,f247,fN,mixed]
def Hi:Nat->Tk->Option T16
 |0,_=>none
 |_+1,[]=>some (([],()),())
 |n+1,x::xs=>(EX n).1 x xs
def Rd:∀(n:Nat)(a0:Tk)(r:T16),Hi n a0=some r->FnG fJ 247 (((asT (lA jX.row) IJ):II Unit _).enc () (a0,())) (sM.enc ()) (fun o H'=>o=.ret (sZ ((rsA 0 (fun(b:(Tk×Unit))=>b.1.length) F8).enc r.1 r.2))/\H'=(uf (aQL false jX.row) sM).enc r.1)
 |0,_,_,h=>by cases h
 |n+1,[],r,h=>by
  cases h
  exact ag4 fun base c=>by
   cases base with
   |none=>exact vX (M:=qN n) ⟨jT,jU,pd _,pI _,rK,rL,sA,rX⟩ func247 rfl rfl ⟨trivial,trivial⟩ (fun _ h=>by cases h) ntmps247 results247 (fun J hs=>ajI hs) (Rb n c)
   |some a=>exact vX (M:=qN n) ⟨jT,jU,pd _,pI _,rK,rL,sA,rX⟩ func247 rfl rfl ⟨trivial,trivial⟩ (fun _ h=>by cases h) ntmps247 results247 (fun J hs=>ajI hs) (Rc n a c)
 |n+1,x::xs,r,h=>by
  exact vX (M:=qN n) ⟨jT,jU,pd _,pI _,rK,rL,sA,rX⟩ func247 rfl rfl ⟨(lA jX.row).nb 0 _,trivial⟩ (sM.nb _ _) ntmps247 results247 (fun J hs=>ajI hs) (((EX n).2 x xs).trans h)
@[reducible] def tJ:kK (Tt×Unit):=nh fJ f249 n (aDy fJ [.tmp 2] 0 Syntax.row (rsA 0 (fun(b:Tt)=>b.1.length) F8))
def Lw:{B:Syntax->List Syntax->Option (Tt×Unit) //∀x xs,run (tJ n) [.at []] {j9:=[(lA Syntax.row).enc (x::xs)]++fX 7 qA,heap:=[],low:=0}=B x xs}:=by
 apply ga;intro x xs;simp (config:={maxSteps:=100000000}) only[go_sem,fO,fP,fK,fL,fQ,fR,fT,fU,fV,fM,fS,fW,f249,fN,mixed];exact rfl
def ZX(c:Nat):run (tJ n) [.at []] {j9:=[.sV (.slice none 0 c)]++fX 7 qA,heap:=[],low:=0}=some (([],()),()):=by simp (config:={maxSteps:=100000000}) only[go_sem,fO,fP,fK,fL,fQ,fR,fT,fU,fV,fM,fS,fW,f249,fN,mixed]
def ZY(a:Addr)(c:Nat):run (tJ n) [.at []] {j9:=[.sV (.slice (some a) 0 c)]++fX 7 qA,heap:=[],low:=0}=some (([],()),()):=by simp (config:={maxSteps:=100000000}) only[go_sem,fO,fP,fK,fL,fQ,fR,fT,fU,fV,fM,fS,fW,f249,fN,mixed]
def OY:Nat->(List Syntax)->Option (Tt×Unit)
 |0,_=>none
 |_+1,[]=>some (([],()),())
 |n+1,x::xs=>(Lw n).1 x xs
def ZZ:∀(n:Nat)(a0:(List Syntax))(r:(Tt×Unit)),OY n a0=some r->FnG fJ 249 (((asT (lA Syntax.row) IJ):II Unit _).enc () (a0,())) (sM.enc ()) (fun o H'=>o=.ret (sZ ((rsA 0 (fun(b:Tt)=>b.1.length) F8).enc r.1 r.2))/\H'=(uf (aQL false Syntax.row) sM).enc r.1)
 |0,_,_,h=>by cases h
 |n+1,[],r,h=>by
  cases h
  exact ag4 fun base c=>by
   cases base with
   |none=>exact vX (M:=tJ n) ⟨jT,jU,pd _,pI _,rK,rL,sA,rX⟩ func249 rfl rfl ⟨trivial,trivial⟩ (fun _ h=>by cases h) ntmps249 results249 (fun J hs=>ajI hs) (ZX n c)
   |some a=>exact vX (M:=tJ n) ⟨jT,jU,pd _,pI _,rK,rL,sA,rX⟩ func249 rfl rfl ⟨trivial,trivial⟩ (fun _ h=>by cases h) ntmps249 results249 (fun J hs=>ajI hs) (ZY n a c)
 |n+1,x::xs,r,h=>by
  exact vX (M:=tJ n) ⟨jT,jU,pd _,pI _,rK,rL,sA,rX⟩ func249 rfl rfl ⟨(lA Syntax.row).nb 0 _,trivial⟩ (sM.nb _ _) ntmps249 results249 (fun J hs=>ajI hs) (((Lw n).2 x xs).trans h)
open Go.Proofs
@[reducible] def sX:kK (List j7):=nh fJ f248 n (l1 fJ [.tmp 2] (lA j7.row))
def JT:{B:j7->List j7->Option (List j7) //∀x xs,run (sX n) [.at []] {j9:=[(lA j7.row).enc (x::xs)]++fX 7 qA,heap:=[]}=B x xs}:=by
 apply ga;intro x xs;simp (config:={maxSteps:=100000000}) only[go_sem,fO,fP,fK,fL,fQ,fR,fT,fU,fV,fM,fS,fW,f248,fN,mixed];exact rfl
def XK(c:Nat):run (sX n) [.at []] {j9:=[.sV (.slice none 0 c)]++fX 7 qA,heap:=[]}=some []:=by simp (config:={maxSteps:=100000000}) only[go_sem,fO,fP,fK,fL,fQ,fR,fT,fU,fV,fM,fS,fW,f248,fN,mixed]
def XL(a:Addr)(c:Nat):run (sX n) [.at []] {j9:=[.sV (.slice (some a) 0 c)]++fX 7 qA,heap:=[]}=some []:=by simp (config:={maxSteps:=100000000}) only[go_sem,fO,fP,fK,fL,fQ,fR,fT,fU,fV,fM,fS,fW,f248,fN,mixed]
def M1:Nat->(List j7)->Option (List j7)
 |0,_=>none
 |_+1,[]=>some []
 |n+1,x::xs=>(JT n).1 x xs
def XM:∀(n:Nat)(a0:(List j7))(r:(List j7)),M1 n a0=some r->I5 fJ 248 [(lA j7.row).enc a0] (fun v=>v=(lA j7.row).enc r)
 |0,_,_,h=>by cases h
 |n+1,[],r,h=>by
  cases h
  exact aIj fun base c=>by
   cases base with
   |none=>exact am3 (M:=sX n) ⟨jT,jU,pd _,pI _,rK,rL,sA,rX⟩ func248 rfl rfl ⟨trivial,trivial⟩ ntmps248 results248 (fun J hs=>ajE (P:=fJ) (rs:=[.tmp 2]) (t:=(lA j7.row)) (J:=J) hs) (XK n c)
   |some a=>exact am3 (M:=sX n) ⟨jT,jU,pd _,pI _,rK,rL,sA,rX⟩ func248 rfl rfl ⟨trivial,trivial⟩ ntmps248 results248 (fun J hs=>ajE (P:=fJ) (rs:=[.tmp 2]) (t:=(lA j7.row)) (J:=J) hs) (XL n a c)
 |n+1,x::xs,r,h=>by
  exact am3 (M:=sX n) ⟨jT,jU,pd _,pI _,rK,rL,sA,rX⟩ func248 rfl rfl ⟨(lA j7.row).nb 0 _,trivial⟩ ntmps248 results248 (fun J hs=>ajE (P:=fJ) (rs:=[.tmp 2]) (t:=(lA j7.row)) (J:=J) hs) (((JT n).2 x xs).trans h)
@[reducible] def CG:kK Int:=nh fJ f205 n (l1 fJ [.tmp 2] (lr .i64)) (uz:=l2 []) (uC:=l2 [])
@[go_sem]def ajX:anm (CG n) [0,1,1] [0,1,1,1]:=⟨jN,jN⟩
@[go_sem]def ajY:xR (CG n) [0,1,1] 3 12 7 12 9 12 10 12/\Mt (CG n) [0,1,1] 11 12=true:=⟨⟨jN,jN,jN,jN⟩,jN⟩
def Uw:Jx (CG n) (uL jP.kv) 35:=mB
def uF:=fu fun n=>(Uw n).1
def tQ:∀n:Nat,uj fJ 205 (uL jP.kv) (lr .i64) (uF n):=ww fun n=>uU (Uw n) (gd jT jU) func205 ntmps205 results205
@[reducible] def abH:kK TF:=nh fJ f206 n (l1 fJ [.tmp 2] (alE 246 (uL (cL j8.row)))) (cut:=Mh [([1,1],[0])])
def Lx:Jx (abH n) (lA j8.row) 4:=mB
def OZ:=fu fun n=>(Lx n).1
def Z0:∀n:Nat,uj fJ 206 (lA j8.row) (alE 246 (uL (cL j8.row))) (OZ n):=ww fun n=>uU (Lx n) (gd jT jU) func206 ntmps206 results206
def qa:xI:=(aCx [] (sub [0,1,0,1] ((f152.body).getD .skip)))
def Eo:qa.ps.size=2/\∀j:Int,pV qa.js j=none:=⟨jN,fun j=>(by show pV [] j=none;unfold pV ay9;cases (j==0)<;>rfl)⟩
def uw:=(lW (lr .i64) (lW (kZ j8.kv) kJ))
def lD:=(tz (asW qa (Cq 3 (lX 1 (alZ (lX 2 (Cq 23 kJ)))))) (tz (Bq (aQO Syntax.kv 8 kJ)) (tz (Bq (aQO Syntax.kv 8 kJ)) Bn)))
def nK:=(tz (ogL qa (Cq 3 (lX 1 (alZ (lX 2 (Cq 23 kJ)))))) (tz (Bq (aQO Syntax.kv 8 kJ)) (tz (Bq (aQO Syntax.kv 8 kJ)) Bn)))
attribute [go_sem] uw lD nK
def nC:kK (Tw×(Bool×Unit)) where
 body:=.seq (Uk (sub [0,1,0,1] ((f152.body).getD .skip))) (ajO (sub [0,1,0,1] ((f152.body).getD .skip)))
 P:=fJ
 cl:=l6 []
 cd:=Bp []
 qj:=oz []
 cut:=Mh []
 n:=n
 out:=(fun _=>none)
 l1:=VT [] [] [0,1,2] 3 nK
 wx:=l2 []
def Z1:(nC n).P=fJ/\(nC n).cl=l6 []/\(nC n).cd=Bp []/\(nC n).qj=oz []/\(nC n).cut=Mh []/\(nC n).n=n/\(nC n).out=(fun _=>none)/\(nC n).l1=VT [] [] [0,1,2] 3 nK/\(nC n).wx=l2 []:=⟨rfl,rfl,rfl,rfl,rfl,rfl,rfl,rfl,rfl⟩
def Z2:(nC n).body=.seq (Uk (sub [0,1,0,1] ((f152.body).getD .skip))) (ajO (sub [0,1,0,1] ((f152.body).getD .skip))):=rfl
def Z3:gb (Uk (sub [0,1,0,1] ((f152.body).getD .skip))) (ajO (sub [0,1,0,1] ((f152.body).getD .skip)))=gb qa.assign qa.body:=jN
attribute [go_sem] Z1 Z2 Eo
def JU:{B:Int->j8->Syntax->Syntax->Option (Tw×(Bool×Unit)) //∀(a0:Int)(a1:j8)(o0:Syntax)(o1:Syntax),run (nC n) [.at [0],.rb,.at [1],.rd] {j9:=Uh ((Cq 3 (lX 1 (alZ (lX 2 (Cq 23 kJ))))).enc (lD.mg ((),(o0,()),(o1,()),())) ()) [11,12] (uw.enc (lD.mg ((),(o0,()),(o1,()),())) (a0,a1,())),heap:=(lD.enc (lD.mg ((),(o0,()),(o1,()),())) ((),(o0,()),(o1,()),())),low:=(lD.enc (lD.mg ((),(o0,()),(o1,()),())) ((),(o0,()),(o1,()),())).length}=B a0 a1 o0 o1}:=mB
def M2:=fu fun n=>(JU n).1
def XN:∀(n:Nat)(a0:Int)(a1:j8)(o0:Syntax)(o1:Syntax)(r:(Tw×(Bool×Unit))),M2 n a0 a1 o0 o1=some r->FnT fJ (VG fJ) (uw.enc (lD.mg ((),(o0,()),(o1,()),())) (a0,a1,())) (lD.enc (lD.mg ((),(o0,()),(o1,()),())) ((),(o0,()),(o1,()),())) (fun o H'=>o=.ret (sZ ((lW mw kJ).enc (nK.mg r.1) r.2))/\H'=nK.enc (nK.mg r.1) r.1)
 |0,_,_,_,_,_,h=>by cases h
 |n+1,a0,a1,o0,o1,r,h=>by
  exact am2 (M:=nC n) (lk:=qa) (j9:=((Cq 3 (lX 1 (alZ (lX 2 (Cq 23 kJ))))).enc (lD.mg ((),(o0,()),(o1,()),())) ())) ⟨jT,jU,pd _,pI _,rK,rL,sA,rX⟩ Z3 (jN) ⟨jN,jN⟩ rfl (sy (fY (jI (jN)) (fZ (lD.sz _ _).symm)) _ (uw.nb _ _)) (fun x hx=>Ai (fY (jI (jN)) (fZ (lD.sz _ _).symm)) _ (lD.nb _ _ x hx)) (fun e J hs=>ag0 (js:=[]) (pos:=[]) (base:=[0,1,2]) (low:=3) (os:=nK) (e:=e) (J:=J) (r:=r) (by rfl) hs) (((JU n).2 a0 a1 o0 o1).trans h)
@[reducible] def Vf:kK TU:=nh fJ f346 n (w9 fJ [] [] [0,1] 2 lF kJ)
def Gh:{B:jP->Option TU //∀(o0:jP),run (Vf n) [.at []] (axT (lX 0 kJ) lF ((),(o0,()),()) () 8)=B o0}:=mB
def Br:=fu fun n=>(Gh n).1
def SC:∀(n:Nat)(o0:jP)(r:TU),Br n o0=some r->SD fJ 346 (lX 0 kJ) lF ((),(o0,()),()) () lF kJ r
 |0,_,_,h=>by cases h
 |n+1,o0,r,h=>by
  exact okD (((Gh n).2 o0).trans h) (gd jT jU) func346 ntmps346 results346
@[go_sem]def kx:=(tz (Bq (lX 4 kJ)) (tz (Bq (aQO Syntax.kv 8 kJ)) (tz (Bq (aQO (cI .i64) 1 kJ)) (tz (Bq (aQO (cI .i64) 1 kJ)) (tz (Bq (lX 5 (lW (lA Syntax.row) (lW (lr .i64) kJ)))) (tz (Bq (aQP 6 (aQP 7 (aQP 8 (lW (lr .i64) kJ))))) (tz (aqO (kZ jR.kv)) (tz (aqO (kZ jR.kv)) (tz ogM Bn)))))))))
@[reducible] def rA:kK (Tj×Unit):=nh fJ f251 n (w9 fJ [] [] [0,1,2,3,4,5,6,7,8] 9 kx kJ)
def aRi:{B:Syntax->Int->Int->(List Syntax)->Int->Int->Tb->Tb->Ta->Option (Tj×Unit) //∀(o0:Syntax)(o1:Int)(o2:Int)(o3:(List Syntax))(o4:Int)(o5:Int)(o6:Tb)(o7:Tb)(o8:Ta),run (rA n) [.kE (ue (rA n) [0]) ((ue (rA n) [0]).toList.drop 1),.cut [1],.at [1]] (jS.put {j9:=((lX 0 (lX 1 (lX 2 (lX 3 kJ)))).enc (kx.mg ((),(o0,()),(o1,()),(o2,()),(o3,o4,()),(o5,()),o6,o7,o8,())) ())++fX (23-((lX 0 (lX 1 (lX 2 (lX 3 kJ)))).enc (kx.mg ((),(o0,()),(o1,()),(o2,()),(o3,o4,()),(o5,()),o6,o7,o8,())) ()).length) qA,heap:=(kx.enc (kx.mg ((),(o0,()),(o1,()),(o2,()),(o3,o4,()),(o5,()),o6,o7,o8,())) ((),(o0,()),(o1,()),(o2,()),(o3,o4,()),(o5,()),o6,o7,o8,())),low:=(kx.enc (kx.mg ((),(o0,()),(o1,()),(o2,()),(o3,o4,()),(o5,()),o6,o7,o8,())) ((),(o0,()),(o1,()),(o2,()),(o3,o4,()),(o5,()),o6,o7,o8,())).length} (some 7) (.sV .nilIface))=B o0 o1 o2 o3 o4 o5 o6 o7 o8}:=mB
def CH:=fu fun n=>(aRi n).1
def adO:∀(n:Nat)(o0:Syntax)(o1:Int)(o2:Int)(o3:(List Syntax))(o4:Int)(o5:Int)(o6:Tb)(o7:Tb)(o8:Ta)(r:(Tj×Unit)),CH n o0 o1 o2 o3 o4 o5 o6 o7 o8=some r->FnT fJ (auO fJ 251) ((lX 0 (lX 1 (lX 2 (lX 3 kJ)))).enc (kx.mg ((),(o0,()),(o1,()),(o2,()),(o3,o4,()),(o5,()),o6,o7,o8,())) ()) (kx.enc (kx.mg ((),(o0,()),(o1,()),(o2,()),(o3,o4,()),(o5,()),o6,o7,o8,())) ((),(o0,()),(o1,()),(o2,()),(o3,o4,()),(o5,()),o6,o7,o8,())) (fun o H'=>o=(enR kx kJ r).1/\H'=(enR kx kJ r).2)
 |0,_,_,_,_,_,_,_,_,_,_,h=>by cases h
 |n+1,o0,o1,o2,o3,o4,o5,o6,o7,o8,r,h=>by
  exact ank (M:=rA n) (p1:=[]) (b1:=[0,1,2,3,4,5,6,7,8]) (args:=((lX 0 (lX 1 (lX 2 (lX 3 kJ)))).enc (kx.mg ((),(o0,()),(o1,()),(o2,()),(o3,o4,()),(o5,()),o6,o7,o8,())) ())) ⟨jT,jU,pd _,pI _,rK,rL,sA,rX⟩ func251 rfl (jN) (sy (fY (jI (jN)) (fZ (kx.sz _ _).symm)) _ ((lX 0 (lX 1 (lX 2 (lX 3 kJ)))).nb (kx.mg ((),(o0,()),(o1,()),(o2,()),(o3,o4,()),(o5,()),o6,o7,o8,())) ())) (fun x hx=>Ai (fY (jI (jN)) (fZ (kx.sz _ _).symm)) _ (kx.nb _ _ x hx)) ntmps251 results251 (low:=9) (by rfl) rfl (((aRi n).2 o0 o1 o2 o3 o4 o5 o6 o7 o8).trans h)
open Go.Proofs
@[go_sem]def ul:=(lX 0 (lX 1 (lX 2 (lX 3 (lW (ZA 312 ag2) kJ)))))
def aRj:{B:Unit->Syntax->Int->Int->(List Syntax)->Int->Int->Tb->Tb->Ta->Option (Tj×Unit) //∀(a0:Unit)(o0:Syntax)(o1:Int)(o2:Int)(o3:(List Syntax))(o4:Int)(o5:Int)(o6:Tb)(o7:Tb)(o8:Ta),run (rA n) [.kE (ue (rA n) [0]) ((ue (rA n) [0]).toList.drop 1),.cut [1],.at [1]] (jS.put {j9:=((lX 0 (lX 1 (lX 2 (lX 3 kJ)))).enc (kx.mg ((),(o0,()),(o1,()),(o2,()),(o3,o4,()),(o5,()),o6,o7,o8,())) ())++fX (23-((lX 0 (lX 1 (lX 2 (lX 3 kJ)))).enc (kx.mg ((),(o0,()),(o1,()),(o2,()),(o3,o4,()),(o5,()),o6,o7,o8,())) ()).length) qA,heap:=(kx.enc (kx.mg ((),(o0,()),(o1,()),(o2,()),(o3,o4,()),(o5,()),o6,o7,o8,())) ((),(o0,()),(o1,()),(o2,()),(o3,o4,()),(o5,()),o6,o7,o8,())),low:=(kx.enc (kx.mg ((),(o0,()),(o1,()),(o2,()),(o3,o4,()),(o5,()),o6,o7,o8,())) ((),(o0,()),(o1,()),(o2,()),(o3,o4,()),(o5,()),o6,o7,o8,())).length} (some 7) ((ZA 312 ag2).enc a0))=B a0 o0 o1 o2 o3 o4 o5 o6 o7 o8}:=mB
def CI:=fu fun n=>(aRj n).1
def adP:∀(n:Nat)(a0:Unit)(o0:Syntax)(o1:Int)(o2:Int)(o3:(List Syntax))(o4:Int)(o5:Int)(o6:Tb)(o7:Tb)(o8:Ta)(r:(Tj×Unit)),CI n a0 o0 o1 o2 o3 o4 o5 o6 o7 o8=some r->FnT fJ (auP fJ 251) (ul.enc (kx.mg ((),(o0,()),(o1,()),(o2,()),(o3,o4,()),(o5,()),o6,o7,o8,())) (a0,())) (kx.enc (kx.mg ((),(o0,()),(o1,()),(o2,()),(o3,o4,()),(o5,()),o6,o7,o8,())) ((),(o0,()),(o1,()),(o2,()),(o3,o4,()),(o5,()),o6,o7,o8,())) (fun o H'=>o=(enR kx kJ r).1/\H'=(enR kx kJ r).2)
 |0,_,_,_,_,_,_,_,_,_,_,_,h=>by cases h
 |n+1,a0,o0,o1,o2,o3,o4,o5,o6,o7,o8,r,h=>by
  exact anj (M:=rA n) (p1:=[]) (b1:=[0,1,2,3,4,5,6,7,8]) (args:=((lX 0 (lX 1 (lX 2 (lX 3 kJ)))).enc (kx.mg ((),(o0,()),(o1,()),(o2,()),(o3,o4,()),(o5,()),o6,o7,o8,())) ())) (x:=(ZA 312 ag2).enc a0) ⟨jT,jU,pd _,pI _,rK,rL,sA,rX⟩ func251 rfl (jN) (sy (fY (jI (jN)) (fZ (kx.sz _ _).symm)) _ (ul.nb (kx.mg ((),(o0,()),(o1,()),(o2,()),(o3,o4,()),(o5,()),o6,o7,o8,())) (a0,()))) (fun x hx=>Ai (fY (jI (jN)) (fZ (kx.sz _ _).symm)) _ (kx.nb _ _ x hx)) ntmps251 results251 (low:=9) (by rfl) rfl (((aRj n).2 a0 o0 o1 o2 o3 o4 o5 o6 o7 o8).trans h)
@[go_sem]def kq:=(tz (Bq (lX 1 (lW (lA Syntax.row) (lW (lr .i64) kJ)))) (tz (Bq (aQP 2 (aQP 3 (aQP 4 (lW (lr .i64) kJ))))) (tz (aqO (kZ jR.kv)) (tz (aqO (kZ jR.kv)) (tz ogM Bn)))))
@[go_sem]abbrev xU(F:(List Syntax)->Int->Int->Tb->Tb->Ta->Option T17)(b:Tc)(a:Unit):=F b.1.1 b.1.2.1 b.2.1.1 b.2.2.1 b.2.2.2.1 b.2.2.2.2.1
@[go_sem]def B5(F:(List Syntax)->Int->Int->Tb->Tb->Ta->Option T17):=GR [.arg 0 [],.vA 0 0 [],.vA 1 0 [],.vA 1 1 [],.vA 1 2 []] kq (lX 0 kJ) kq (lW mo (lW mw kJ)) (xU F)
@[reducible] def JV:kK T17:=nh fJ f284 n (w9 fJ [.tmp 2,.tmp 3] [] [0,1,2,3,4] 5 kq (lW mo (lW mw kJ))) (uz:=l2 []) (uC:=l2 [])
@[go_sem]def Z4:anm (JV n) [0,0,1] [0,1,1]:=⟨jN,jN⟩
def JW:SX (JV n) (lX 0 kJ) kq 39 xU:=mC
def Ep:=fu fun n=>(JW n).1
def IQ:∀n:Nat,zt fJ 284 (lX 0 kJ) kq kq (lW mo (lW mw kJ)) (xU (Ep n)):=VX fun n=>GC (JW n) (gd jT jU) func284 ntmps284 results284
@[reducible] def XO:kK Bool:=nh fJ f213 n (l1 fJ [.tmp 4] mw)
def IR:Ll (XO n) (kZ lz.kv) mo 14:=mB
def Ly:=fu fun n=>(IR n).1
def Wk:∀n:Nat,uu fJ 213 (kZ lz.kv) mo mw (Ly n):=yu fun n=>we (IR n) (gd jT jU) func213 ntmps213 results213
@[reducible] def aqZ:kK Int:=nh fJ f181 n (l1 fJ [.tmp 2] (lr .i64))
def ae8:Jx (aqZ n) (lr .i64) 18:=mB
def akE:=fu fun n=>(ae8 n).1
def aph:∀n:Nat,uj fJ 181 (lr .i64) (lr .i64) (akE n):=ww fun n=>uU (ae8 n) (gd jT jU) func181 ntmps181 results181
@[go_sem]def xw:ua:=⟨[],[],(zA::zT (as6 130 (lA kW))::l7 (zA::zA::zT (lA Syntax.row)::zK::zK::l7 (l7 (zA::zA::[])))),[],none,none⟩
@[reducible] def xL:kK Int:=nh fJ f129 n (l1 fJ [.tmp 4] (lr .i64)) (qj:=oz [([0,1,0,1],xw)])
@[go_sem]abbrev xx(v0:List kj)(v1:List Syntax)(v2 v3:Int):jS:=⟨(qA::.func (.func 130) [.kF false 1 (mp kX v0)] []::mm (qA::qA::.kF false 8 (mp Syntax.cells v1)::.int .i64 v2::.int .i64 v3::mm (mm (qA::qA::[])))),[],0,[]⟩
abbrev qq:=(List kj)->(List Syntax)->Int->Int->Option Int
abbrev FB(K:List Kt)(Z:qq):Prop:=∀v0 v1 v2 v3,run (xL n) K (xx v0 v1 v2 v3)=Z v0 v1 v2 v3
def s8:LB (FB n) [0,1,0,1] [.qg 0,.cut [1,1],.at [1,1]]:=mB
def s9:Nat->qq:=ui ((s8 n).1)
def adQ{n:Nat}:s9 n (m+1)=(s8 n).1 (s9 n m):=rfl
@[go_sem]def DY(m:Nat):=vi (s8 n) (s9 n) m
def xM:Ll (xL n) (lA Syntax.row) (as6 130 (lA kW)) 21:=mB
def yD:=fu fun n=>(xM n).1
def FC:∀n:Nat,uu fJ 129 (lA Syntax.row) (as6 130 (lA kW)) (lr .i64) (yD n):=yu fun n=>we (xM n) (gd jT jU) func129 ntmps129 results129
@[reducible] def aq0:kK jW:=nh fJ f51 n (l1 fJ [.cell 2 49] (kZ jW.kv))
def ae9:Jx (aq0 n) (lr .i64) 5:=mB
def akF:=fu fun n=>(ae9 n).1
def api:∀n:Nat,uj fJ 51 (lr .i64) (kZ jW.kv) (akF n):=ww fun n=>uU (ae9 n) (gd jT jU) func51 ntmps51 results51
open Go.Proofs
@[reducible] def aq1:kK Syntax:=nh fJ f52 n (l1 fJ [.cell 2 37] (kZ Syntax.kv))
def afa:Jx (aq1 n) mo 5:=mB
def Z5:=fu fun n=>(afa n).1
def abI:∀n:Nat,uj fJ 52 mo (kZ Syntax.kv) (Z5 n):=ww fun n=>uU (afa n) (gd jT jU) func52 ntmps52 results52
@[reducible] def aq2:kK Syntax:=nh fJ f53 n (l1 fJ [.cell 4 37] (kZ Syntax.kv))
def afb:Ll (aq2 n) (kZ Syntax.kv) (kZ Syntax.kv) 9:=mB
def Z6:=fu fun n=>(afb n).1
def abJ:∀n:Nat,uu fJ 53 (kZ Syntax.kv) (kZ Syntax.kv) (kZ Syntax.kv) (Z6 n):=yu fun n=>we (afb n) (gd jT jU) func53 ntmps53 results53
def ahL:ua:=⟨[],[],(zA::zT (lA kW)::zK::zA::zK::zA::zK::zA::zK::zK::zA::zA::zA::zT (lA j7.row)::zK::zK::l7 (l7 (l7 (zT (lA kW)::zK::zK::lH (l7 (l7 (zA::zA::zA::[]))))))),[oT jX.kv,oK,oC [zK,zK],oA kp.row,oT j7.kv],none,none⟩
def ahM:ua:=⟨[],[(2,1,2)],(zA::zT (lA kW)::zK::zA::zK::zA::zK::l7 (zA::zA::zT (lA j7.row)::zK::zK::lH (lH (l7 (l7 (zA::zA::[])))))),[oT jX.kv,oK,oC [zK,zK],oA kp.row],none,none⟩
@[reducible] def JX:kK (kA×Bool):=nh fJ f61 n (l1 fJ [.cell 4 98,.tmp 5] (Qr (kZ kA.kv) mw)) (qj:=oz [([0,1,0,1,1,1,0,0,1,1,0,0,1,0,1,1],ahL),([0,1,0,1,1],ahM)]) (uz:=l2 []) (uC:=l2 [])
def avf:so (JX n) [0,1,1,1]=true:=jN
def avg:Mt (JX n) [0,1,1,1] 0 4=true:=jN
attribute [go_sem] avf avg ahL ahM
abbrev ahN(v0:List kj)(v1:Int)(v2:List j7)(v3 v4:Int)(v5:List kj)(v6 v7:Int)(o0:jX)(v9:Int)(r3:List kp)(o4:j7)(c3:Nat):jS:=⟨(qA::.kF false 1 (mp kX v0)::.ptr 0 0::qA::.ptr 1 0::qA::.ptr 2 0::qA::.ptr 4 0::.int .i64 v1::qA::qA::qA::.kF false 2 (mp j7.cells v2)::.int .i64 v3::.int .i64 v4::mm (mm (mm (.kF false 1 (mp kX v5)::.int .i64 v6::.int .i64 v7::lK (mm (mm (qA::qA::qA::[]))))))),[.cells (jX.cells o0),.cells [.int .i64 0,.kF true 0 []],.cells [.int .i64 v9,.lR 3 c3],.lR true 2 (mp kp.cells r3),.cells (j7.cells o4)],0,[]⟩
abbrev ahO(m2:Nat):List Kt:=[.qg 2,.cut [1,1,1,1,0,0,1,1,0,0,1,0,1,1],.at [1,1,1,1,0,0,1,1,0,0,1,0,1,1],.qg 1,.cut [1,1,1,0,0,1,0,1,1],.at [1,1,1,0,0,1,0,1,1],.lp m2 [0,1,0,1,1],.qg 0,.cut [1,1,1],.at [1,1,1]]
abbrev ahP:=(List kj)->Int->(List j7)->Int->Int->(List kj)->Int->Int->jX->Int->(List kp)->j7->Option (kA×Bool)
abbrev atx(K:List Kt)(Z:ahP):Prop:=∀v0 v1 v2 v3 v4 v5 v6 v7 o0 v9 r3 o4 c3,c3=r3.length->run (JX n) K (ahN v0 v1 v2 v3 v4 v5 v6 v7 o0 v9 r3 o4 c3)=Z v0 v1 v2 v3 v4 v5 v6 v7 o0 v9 r3 o4
abbrev ahQ(v0:List kj)(v1:List j7)(v2 v3:Int)(o0:jX)(v5:Int)(r3:List kp)(c3:Nat):jS:=⟨(qA::.kF false 1 (mp kX v0)::.ptr 0 0::qA::.ptr 1 0::qA::.ptr 2 0::mm (qA::qA::.kF false 2 (mp j7.cells v1)::.int .i64 v2::.int .i64 v3::lK (lK (mm (mm (qA::qA::[])))))),[.cells (jX.cells o0),.cells [.int .i64 0,.kF true 0 []],.cells [.int .i64 v5,.lR 3 c3],.lR true 2 (mp kp.cells r3)],0,[]⟩
abbrev M3:=(List kj)->(List j7)->Int->Int->jX->Int->(List kp)->Option (kA×Bool)
abbrev Wl(K:List Kt)(Z:M3):Prop:=∀v0 v1 v2 v3 o0 v5 r3 c3,c3=r3.length->run (JX n) K (ahQ v0 v1 v2 v3 o0 v5 r3 c3)=Z v0 v1 v2 v3 o0 v5 r3
attribute [go_sem] ahN ahO ahQ
def Hj:LB2 (Wl n) [0,1,0,1,1] [.qg 0,.cut [1,1,1],.at [1,1,1]] (atx n) [0,1,0,1,1,1,0,0,1,1,0,0,1,0,1,1] ahO:=mB
def M4(X2:M3):Nat->ahP:=ui ((Hj n).1 X2)
def abK{n:Nat}(X2:M3):M4 n X2 (m+1)=(Hj n).1 X2 (M4 n X2 m):=rfl
def anF{X2}(h2:Wl n (.lq m2 [0,1,0,1,1]::[.qg 0,.cut [1,1,1],.at [1,1,1]]) X2)(m:Nat):=aDI (Hj n) h2 (M4 n X2) m
def Dd:LB (Wl n) [0,1,0,1,1] [.qg 0,.cut [1,1,1],.at [1,1,1]]:=by
 apply ga;intro m X0 ih v0 v1 v2 v3 o0 v5 r3 c3 ec3;subst ec3;simp (config:={maxSteps:=100000000}) only[go_sem,fO,fP,fK,fL,fQ,fR,fT,fU,fV,fM,fS,fW,f61,fN,mixed,anF n ih,ih];exact rfl
def De:Nat->M3:=ui ((Dd n).1)
def P5{n:Nat}:De n (m+1)=(Dd n).1 (De n m):=rfl
@[go_sem]def anG(m:Nat):=vi (Dd n) (De n) m
def Qy:Ll (JX n) (kZ jX.kv) (lA kW) 58:=mB
def uG:=fu fun n=>(Qy n).1
def aty:∀n:Nat,uu fJ 61 (kZ jX.kv) (lA kW) (Qr (kZ kA.kv) mw) (uG n):=yu fun n=>we (Qy n) (gd jT jU) func61 ntmps61 results61
@[reducible] def atz:kK Bool:=nh fJ f120 n (l1 fJ [.tmp 4] mw) (qj:=oz [([0,1,0,1],adD)])
abbrev aBf(K:List Kt)(Z:aQR):Prop:=∀v0 v1 v2,run (atz n) K (adE v0 v1 v2)=Z v0 v1 v2
def Re:LB (aBf n) [0,1,0,1] [.qg 0,.cut [1,1],.at [1,1]]:=mB
def Rf:Nat->aQR:=ui ((Re n).1)
def akG{n:Nat}:Rf n (m+1)=(Re n).1 (Rf n m):=rfl
@[go_sem]def atA(m:Nat):=vi (Re n) (Rf n) m
def alX:Ll (atz n) (lA kW) mo 18:=mB
def anH:=fu fun n=>(alX n).1
def aBg:∀n:Nat,uu fJ 120 (lA kW) mo mw (anH n):=yu fun n=>we (alX n) (gd jT jU) func120 ntmps120 results120
open Go.Proofs
@[go_sem]def wG:ua:=⟨[],[],(zT (lA kW)::zT (tyF 96)::l7 (zA::zK::zK::l7 (l7 (zA::zA::[])))),[],none,none⟩
@[reducible] def xc:kK Int:=nh fJ f39 n (l1 fJ [.tmp 4] (lr .i64)) (cl:=l6 [(96,nq mo mw (Su n))]) (qj:=oz [([0,1,0,1],wG)])
@[go_sem]abbrev wH(v0:List kj)(v1 v2:Int):jS:=⟨(.kF false 1 (mp kX v0)::.func (.func 96) [] []::mm (qA::.int .i64 v1::.int .i64 v2::mm (mm (qA::qA::[])))),[],0,[]⟩
abbrev wI:=(List kj)->Int->Int->Option Int
abbrev Er(K:List Kt)(Z:wI):Prop:=∀v0 v1 v2,run (xc n) K (wH v0 v1 v2)=Z v0 v1 v2
def oB:LB (Er n) [0,1,0,1] [.qg 0,.cut [1,1],.at [1,1]]:=mB
def oF:Nat->wI:=ui ((oB n).1)
def vI{n:Nat}:oF n (m+1)=(oB n).1 (oF n m):=rfl
@[go_sem]def Cr(m:Nat):=vi (oB n) (oF n) m
def sP:Ll (xc n) (lA kW) (tyF 96) 19:=mB
def tE:=fu fun n=>(sP n).1
def Es:∀n:Nat,uu fJ 39 (lA kW) (tyF 96) (lr .i64) (tE n):=yu fun n=>we (sP n) (gd (jQ (lB (alO n)) jT) jU) func39 ntmps39 results39
@[reducible] def avh:kK Bool:=nh fJ f253 n (l1 fJ [.tmp 2] mw) (cl:=l6 [(101,nq (kZ jW.kv) (lr .i64) (Ej n)),(102,nq (kZ jW.kv) (lr .i64) (BF n))])
def Z7:Jx (avh n) (kZ jW.kv) 11:=mB
def Rg:=fu fun n=>(Z7 n).1
def ahR:∀n:Nat,uj fJ 253 (kZ jW.kv) mw (Rg n):=ww fun n=>uU (Z7 n) (gd (jQ (lB (ZC n)) (jQ (lB (VZ n)) jT)) jU) func253 ntmps253 results253
@[go_sem]def Wm:ua:=⟨[],[],(zT (lA kA.row)::zT (lA kA.row)::zA::zA::zA::zK::lH (l7 (zA::[]))),[],none,none⟩
@[reducible] def M5:kK Bool:=nh fJ f62 n (l1 fJ [.tmp 4] mw) (cd:=Bp [(119,pR (nP (kZ kA.kv) (kZ kA.kv) mw (adC n)))]) (qj:=oz [([0,1,0,1,1],Wm)]) (uz:=l2 []) (uC:=l2 [])
@[go_sem]def anI:so (M5 n) [0,0,0,1,0,0,1,0,1,1]=true:=jN
@[go_sem]abbrev Wn(v0 v1:List kA)(v2:Int):jS:=⟨(.kF false 2 (mp kA.cells v0)::.kF false 2 (mp kA.cells v1)::qA::qA::qA::.int .i64 v2::lK (mm (qA::[]))),[],0,[]⟩
abbrev Wo:=(List kA)->(List kA)->Int->Option Bool
abbrev alY(K:List Kt)(Z:Wo):Prop:=∀v0 v1 v2,run (M5 n) K (Wn v0 v1 v2)=Z v0 v1 v2
def AK:LB (alY n) [0,1,0,1,1] [.qg 0,.cut [1,1,1],.at [1,1,1]]:=mB
def AM:Nat->Wo:=ui ((AK n).1)
def Rh{n:Nat}:AM n (m+1)=(AK n).1 (AM n m):=rfl
@[go_sem]def af2(m:Nat):=vi (AK n) (AM n) m
def M6:Ll (M5 n) (lA kA.row) (lA kA.row) 27:=mB
def KD:=fu fun n=>(M6 n).1
def al0:∀n:Nat,uu fJ 62 (lA kA.row) (lA kA.row) mw (KD n):=yu fun n=>we (M6 n) (gd jT (lC (qk (au5 n)) jU)) func62 ntmps62 results62
@[go_sem]def ahS:ua:=⟨[],[],(zA::zK::zA::zK::zK::lH (l7 (l7 (zA::zA::zA::[])))),[oT kz.kv],none,none⟩
@[reducible] def Z8:kK Bool:=nh fJ f288 n (l1 fJ [.tmp 2] mw) (cd:=Bp [(305,pR (nq (kZ jW.kv) (lr .i64) (Qu n)))]) (qj:=oz [([0,1,0,1,1],ahS)]) (uz:=l2 []) (uC:=l2 [])
@[go_sem]def avi:anm (Z8 n) [0,0,1,0,0,1,0,1,1] [0,1]:=⟨jN,jN⟩
@[go_sem]abbrev ahT(v0:Bool)(v1:Int)(o0:kz):jS:=⟨(qA::.ptr 0 0::qA::.bool v0::.int .i64 v1::lK (mm (mm (qA::qA::qA::[])))),[.cells (kz.cells o0)],0,[]⟩
abbrev ahU:=Bool->Int->kz->Option Bool
abbrev atB(K:List Kt)(Z:ahU):Prop:=∀v0 v1 o0,run (Z8 n) K (ahT v0 v1 o0)=Z v0 v1 o0
def Hl:LB (atB n) [0,1,0,1,1] [.qg 0,.cut [1,1,1],.at [1,1,1]]:=mB
def Ho:Nat->ahU:=ui ((Hl n).1)
def abL{n:Nat}:Ho n (m+1)=(Hl n).1 (Ho n m):=rfl
@[go_sem]def anJ(m:Nat):=vi (Hl n) (Ho n) m
def Z9:Jx (Z8 n) (kZ kz.kv) 32:=mB
def YD:=fu fun n=>(Z9 n).1
def atC:∀n:Nat,uj fJ 288 (kZ kz.kv) mw (YD n):=ww fun n=>uU (Z9 n) (gd jT (lC (nu (apc n)) jU)) func288 ntmps288 results288
@[go_sem]def akH:ua:=⟨[],[],(zK::zA::zA::zK::zK::lH (lH (l7 (l7 [])))),[],none,none⟩
@[reducible] def anK:kK Bool:=nh fJ f162 n (l1 fJ [.tmp 2] mw) (cl:=l6 [(217,nq (lr .u8) mw (Ik n))]) (qj:=oz [([0,1,0,1,1,1],akH)])
@[go_sem]abbrev akI(v0:kj)(v1:Bool)(v2:Int):jS:=⟨(.str (sb v0)::qA::qA::.bool v1::.int .i64 v2::lK (lK (mm (mm [])))),[],0,[]⟩
abbrev akJ:=kj->Bool->Int->Option Bool
abbrev avj(K:List Kt)(Z:akJ):Prop:=∀v0 v1 v2,run (anK n) K (akI v0 v1 v2)=Z v0 v1 v2
def JY:LB (avj n) [0,1,0,1,1,1] [.qg 0,.cut [1,1,1,1],.at [1,1,1,1]]:=mB
def JZ:Nat->akJ:=ui ((JY n).1)
def afc{n:Nat}:JZ n (m+1)=(JY n).1 (JZ n m):=rfl
@[go_sem]def apj(m:Nat):=vi (JY n) (JZ n) m
def adR:Jx (anK n) mo 45:=mB
def Wp:=fu fun n=>(adR n).1
def akK:∀n:Nat,uj fJ 162 mo mw (Wp n):=ww fun n=>uU (adR n) (gd (jQ (lB (aqQ n)) jT) jU) func162 ntmps162 results162
@[go_sem]def akL:ua:=⟨[],[],(zT (lA kz.row)::zK::zA::zA::zK::zA::zK::lH (l7 (zA::[]))),[oK],none,none⟩
@[reducible] def anL:kK (Entry×Int):=nh fJ f24 n (l1 fJ [.cell 4 63,.tmp 5] (Qr (kZ Entry.kv) (lr .i64))) (cl:=l6 [(64,nP (lA kW) mo mw (VA n)),(65,nq (kZ kz.kv) (lA kW) (Ln n)),(66,Zv (kZ kz.kv) (lr .i64) mo (kZ Entry.kv) (Q1 n))]) (qj:=oz [([0,1,0,1],akL)])
@[go_sem]abbrev akM(v0:List kz)(v1:kj)(v2:Int):jS:=⟨(.kF false 23 (mp kz.cells v0)::.str (sb v1)::qA::qA::.ptr 0 0::qA::.int .i64 v2::lK (mm (qA::[]))),[.cells [.int .i64 0,.int .i64 0,.int .i64 0,.int .i64 0,.int .i64 0,.int .i64 0,.str (sb []),.kF true 0 [],.kF true 0 []]],0,[]⟩
abbrev akN:=(List kz)->kj->Int->Option (Entry×Int)
abbrev avk(K:List Kt)(Z:akN):Prop:=∀v0 v1 v2,run (anL n) K (akM v0 v1 v2)=Z v0 v1 v2
def alC:LB (avk n) [0,1,0,1] [.qg 0,.cut [1,1],.at [1,1]]:=mB
def alM:Nat->akN:=ui ((alC n).1)
def afd{n:Nat}:alM n (m+1)=(alC n).1 (alM n m):=rfl
@[go_sem]def apk(m:Nat):=vi (alC n) (alM n) m
def adS:Ll (anL n) (lA kz.row) mo 28:=mB
def KT:=fu fun n=>(adS n).1
def Qz:∀n:Nat,uu fJ 24 (lA kz.row) mo (Qr (kZ Entry.kv) (lr .i64)) (KT n):=yu fun n=>we (adS n) (gd (jQ (lw (adF n)) (jQ (lB (V1 n)) (jQ (Qs (ahq n)) jT))) jU) func24 ntmps24 results24
open Go.Proofs
@[reducible] def anM:kK Bool:=nh fJ f161 n (l1 fJ [.tmp 2] mw) (cd:=Bp [(216,pR (nq (lr .i64) (lr .i64) (PY n)))]) (uz:=l2 []) (uC:=l2 [])
@[go_sem]def ax4:so (anM n) [0,0,1]=true:=jN
def Vg:Jx (anM n) (kZ jW.kv) 57:=mB
def P6:=fu fun n=>(Vg n).1
def avl:∀n:Nat,uj fJ 161 (kZ jW.kv) mw (P6 n):=ww fun n=>uU (Vg n) (gd jT (lC (nu (au8 n)) jU)) func161 ntmps161 results161
@[go_sem]def ahV:ua:=⟨[],[],(zA::zA::zK::zK::l7 (zK::lH (lH (lH (l7 []))))),[oT kA.kv],none,none⟩
@[go_sem]def ahW:ua:=⟨[],[],(zA::zK::zK::zK::zA::zA::zA::zK::lH (lH (lH (l7 (zA::[]))))),[oT kA.kv],none,none⟩
@[reducible] def aaa:kK Int:=nh fJ f163 n (l1 fJ [.tmp 6] (lr .i64)) (cl:=l6 [(218,nq (kZ kA.kv) mw (Lo n))]) (qj:=oz [([0,1,0,1,1,1],ahV),([0,1,0,1,1],ahW)])
@[go_sem]abbrev ahX(v0 v1:Int)(o0:kA):jS:=⟨(qA::qA::.int .i64 v0::.ptr 0 0::mm (.int .i64 v1::lK (lK (lK (mm []))))),[.cells (kA.cells o0)],0,[]⟩
abbrev ahY:=Int->Int->kA->Option Int
abbrev atD(K:List Kt)(Z:ahY):Prop:=∀v0 v1 o0,run (aaa n) K (ahX v0 v1 o0)=Z v0 v1 o0
@[go_sem]abbrev ahZ(v0 v1 v2:Int)(o0:kA):jS:=⟨(qA::.int .i64 v0::.int .i64 v1::.ptr 0 0::qA::qA::qA::.int .i64 v2::lK (lK (lK (mm (qA::[]))))),[.cells (kA.cells o0)],0,[]⟩
abbrev ah0:=Int->Int->Int->kA->Option Int
abbrev atE(K:List Kt)(Z:ah0):Prop:=∀v0 v1 v2 o0,run (aaa n) K (ahZ v0 v1 v2 o0)=Z v0 v1 v2 o0
def AN:LB (atD n) [0,1,0,1,1,1] [.qg 2,.cut [1,1,1,1],.at [1,1,1,1]]:=mB
def wJ:Nat->ahY:=ui ((AN n).1)
def Ip{n:Nat}:wJ n (m+1)=(AN n).1 (wJ n m):=rfl
@[go_sem]def anN(m:Nat):=vi (AN n) (wJ n) m
def AO:LB (atE n) [0,1,0,1,1] [.qg 0,.cut [1,1,1],.at [1,1,1]]:=mB
def AP:Nat->ah0:=ui ((AO n).1)
def Iq{n:Nat}:AP n (m+1)=(AO n).1 (AP n m):=rfl
@[go_sem]def anO(m:Nat):=vi (AO n) (AP n) m
def QA:SC3 (aaa n) (kZ kA.kv) (lr .i64) (lr .i64) 61:=mB
def Lz:=fu fun n=>(QA n).1
def atF:∀n:Nat,auZ fJ 163 (kZ kA.kv) (lr .i64) (lr .i64) (lr .i64) (Lz n):=aIv fun n=>aDK (QA n) (gd (jQ (lB (atm n)) jT) jU) func163 ntmps163 results163
@[reducible] def atG:kK Int:=nh fJ f308 n (l1 fJ [.tmp 4] (lr .i64)) (cl:=l6 [(321,nq (kZ jW.kv) (Qr (lA jW.row) (kZ jW.kv)) (ajJ n))])
def Wq:Ll (atG n) (kZ kz.kv) (lr .i64) 23:=mB
def Vh:=fu fun n=>(Wq n).1
def aq3:∀n:Nat,uu fJ 308 (kZ kz.kv) (lr .i64) (lr .i64) (Vh n):=yu fun n=>we (Wq n) (gd (jQ (lB (ax2 n)) jT) jU) func308 ntmps308 results308
@[go_sem]def yE:ua:=⟨[],[],(zT (lA kA.row)::zT (tyF 99)::l7 (zA::zK::zK::l7 (l7 (zA::zA::[])))),[],none,none⟩
@[reducible] def zg:kK Int:=nh fJ f160 n (l1 fJ [.tmp 4] (lr .i64)) (cl:=l6 [(99,nq (kZ kA.kv) mw (ahD n))]) (qj:=oz [([0,1,0,1],yE)])
@[go_sem]abbrev yF(v0:List kA)(v1 v2:Int):jS:=⟨(.kF false 2 (mp kA.cells v0)::.func (.func 99) [] []::mm (qA::.int .i64 v1::.int .i64 v2::mm (mm (qA::qA::[])))),[],0,[]⟩
abbrev yG:=(List kA)->Int->Int->Option Int
abbrev Ir(K:List Kt)(Z:yG):Prop:=∀v0 v1 v2,run (zg n) K (yF v0 v1 v2)=Z v0 v1 v2
def pK:LB (Ir n) [0,1,0,1] [.qg 0,.cut [1,1],.at [1,1]]:=mB
def pL:Nat->yG:=ui ((pK n).1)
def xN{n:Nat}:pL n (m+1)=(pK n).1 (pL n m):=rfl
@[go_sem]def FD(m:Nat):=vi (pK n) (pL n) m
def uD:Ll (zg n) (lA kA.row) (tyF 99) 19:=mB
def vB:=fu fun n=>(uD n).1
def Is:∀n:Nat,uu fJ 160 (lA kA.row) (tyF 99) (lr .i64) (vB n):=yu fun n=>we (uD n) (gd (jQ (lB (atu n)) jT) jU) func160 ntmps160 results160
@[go_sem]def Wr:ua:=⟨[(4,5,false)],[],(zA::zK::zK::zA::zK::lH (l7 (l7 []))),[oT jW.kv,oK,oA jW.row],none,none⟩
@[reducible] def YE:kK (jW×(List jW)):=nh fJ f104 n (l1 fJ [.cell 2 49,.tmp 3] (Qr (kZ jW.kv) (lA jW.row))) (cl:=l6 [(167,am9 0 false 5 (Ah [0] (uf (aQL false jW.row) sM) (asA 0 (fun(b:TL)=>b.1.length) IJ) (uf (aQL false jW.row) sM) F8 (fun(b:TL) a=>(CA n) b.1)))]) (qj:=oz [([0,0,1,1],Wr)])
@[go_sem]abbrev Ws(o0:jW)(r2:List jW)(c2:Nat):jS:=⟨(qA::.ptr 0 0::.ptr 1 0::qA::.lR 2 c2::lK (mm (mm []))),[.cells (jW.cells o0),.cells [.int .i64 0,.int .i64 0,.str (sb []),.kF true 0 [],.kF true 0 []],.lR false 5 (mp jW.cells r2)],0,[]⟩
abbrev Wt:=jW->(List jW)->Option (jW×(List jW))
abbrev al1(K:List Kt)(Z:Wt):Prop:=∀o0 r2 c2,c2=r2.length->run (YE n) K (Ws o0 r2 c2)=Z o0 r2
def AQ:LB (al1 n) [0,0,1,1] [.qg 0,.cut [1,1,1],.at [1,1,1]]:=mB
def Et:Nat->Wt:=ui ((AQ n).1)
def Ri{n:Nat}:Et n (m+1)=(AQ n).1 (Et n m):=rfl
@[go_sem]def af3(m:Nat):=vi (AQ n) (Et n) m
def M7:Jx (YE n) (kZ jW.kv) 29:=mB
def KE:=fu fun n=>(M7 n).1
def al2:∀n:Nat,uj fJ 104 (kZ jW.kv) (Qr (kZ jW.kv) (lA jW.row)) (KE n):=ww fun n=>uU (M7 n) (gd (jQ (abg (pq (fun b a r h=>(adH n) b.1 r h))) jT) jU) func104 ntmps104 results104
@[reducible] def aab:kK Bool:=nh fJ f79 n (l1 fJ [.tmp 4] mw) (cl:=l6 [(142,nP (lA kW) mo (lr .i64) (CB n))])
def B6:Ll (aab n) (lA kW) mo 9:=mB
def oG:=fu fun n=>(B6 n).1
def pS:∀n:Nat,uu fJ 79 (lA kW) mo mw (oG n):=yu fun n=>we (B6 n) (gd (jQ (lw (adJ n)) jT) jU) func79 ntmps79 results79
end Go.Abs
end
