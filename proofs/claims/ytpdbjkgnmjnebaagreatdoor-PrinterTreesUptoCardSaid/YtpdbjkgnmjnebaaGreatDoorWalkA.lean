/- A part of the proof: what the functions compute. -/
import Derived.Test.YtpdbjkgnmjnebaaGreatDoorDataA
import Derived.Test.YtpdbjkgnmjnebaaGreatDoorExtA
set_option linter.all false
open Go.Proofs.Tryz renaming prog→fD
open Nat renaming reduceLeDiff→fE,reduceEqDiff→fF,reduceAdd→fI,reduceSub→fJ,reduceBEq→fK,reduceMul→fL,reduceLT→fN,le_trans→fS,le_of_eq→fT
open Int renaming reduceToNat→fG,reduceBEq→fM,reduceLE→fO,reduceLT→fP,reduceEq→fQ
open Option renaming getD_some→fH
open List renaming replicate→fR
open Subtype renaming mk→fU
open Go.Code renaming seq→fV
open Go.Abs.AV renaming any→qA
noncomputable section
open Go.Proofs.Tryz
namespace Go.Abs
variable {m m2:Nat}
variable (n:Nat)
open Go.Proofs
attribute [go_sem] f96 f101 f102 f119 f305 f217 f64 f66 f216 f218 f117 f321 f97 f99 f167 f105 f142 f224 f196 f241 f199 f103 f109 f173 f219 f261 f264 f55 f56 f75 f78 f193 f240 f140 f37 f38 f186 f187 f127 f315 f234 f302 f303 f277 f41 f42 f280 f200 f83 f94 f247 f249 f248 f205 f206 f152 f346 f251 f284 f213 f181 f129 f51 f52 f53 f111 f177 f120 f229 f228 f226 f266 f59 f39 f253 f62 f288 f162 f24 f161 f163 f308 f160 f104 f79
set_option maxRecDepth 100000
set_option maxHeartbeats 4000000
@[reducible] def apE:kL Bool:=mU fD f96 n (lR fD [.tmp 2] mh)
def M3:IT (apE n) lW 6:=mB
def Um:=fu fun n=>(M3 n).1
def an1:∀n:Nat,tL fD 96 lW mh (Um n):=vD fun n=>uy (M3 n) (gd jU jV) func96 ntmps96 results96
@[go_sem]def amN:sN:=⟨[],[],(zA::zK::zA::zK::zK::lH []),[oT jX.kr],none,none⟩
@[reducible] def apF(X:jX->Option Int)(n:Nat):kL Int:=mU fD f101 n (lR fD [.tmp 2] (li .i64)) (cl:=lY [(101,nh (kT jX.kr) (li .i64) X)]) (p4:=nR [([0,1,0,1,1],amN)])
@[go_sem]abbrev amO(v0 v1:Int)(o0:jX):jT:=⟨(qA::.ptr 0 0::qA::.int .i64 v0::.int .i64 v1::lM []),[.cells (jX.cells o0)],0,[]⟩
abbrev Q7:=Int->Int->jX->Option Int
abbrev axw(X:jX->Option Int)(n:Nat)(K:List Kt)(Z:Q7):Prop:=∀v0 v1 o0,run (apF X n) K (amO v0 v1 o0)=Z v0 v1 o0
def Kg(X:jX->Option Int)(n:Nat):LB (axw X n) [0,1,0,1,1] [.pF 0,.cut [1,1,1],.at [1,1,1]]:=mB
def Kh(X:jX->Option Int)(n:Nat):Nat->Q7:=sR ((Kg X n).1)
def agG(X:jX->Option Int){n:Nat}:Kh X n (m+1)=(Kg X n).1 (Kh X n m):=rfl
@[go_sem]def arA(X:jX->Option Int)(n:Nat)(m:Nat):=ud (Kg X n) (Kh X n) m
def afc(X:jX->Option Int)(n:Nat):IT (apF X n) (kT jX.kr) 21:=mB
def Eu:Nat->jX->Option Int
 |0,_=>none
 |n+1,a0=>(afc (Eu n) n).1 a0
def aaK:∀n:Nat,tL fD 101 (kT jX.kr) (li .i64) (Eu n)
 |0=>fun _ _ h=>(by cases h)
 |n+1=>by
  have axx:=aaK n;exact uy (afc (Eu n) n) (gd (jR (lA (axx)) jU) jV) func101 ntmps101 results101
@[go_sem]def aiV:sN:=⟨[],[],(zA::zK::zA::zK::zK::lH (zA::[])),[oT jX.kr],none,none⟩
@[reducible] def amP(X:jX->Option Int)(n:Nat):kL Int:=mU fD f102 n (lR fD [.tmp 2] (li .i64)) (cl:=lY [(102,nh (kT jX.kr) (li .i64) X)]) (p4:=nR [([0,1,0,1,1],aiV)])
@[go_sem]abbrev aiW(v0 v1:Int)(o0:jX):jT:=⟨(qA::.ptr 0 0::qA::.int .i64 v0::.int .i64 v1::lM (qA::[])),[.cells (jX.cells o0)],0,[]⟩
abbrev avS(X:jX->Option Int)(n:Nat)(K:List Kt)(Z:Q7):Prop:=∀v0 v1 o0,run (amP X n) K (aiW v0 v1 o0)=Z v0 v1 o0
def Ht(X:jX->Option Int)(n:Nat):LB (avS X n) [0,1,0,1,1] [.pF 0,.cut [1,1,1],.at [1,1,1]]:=mB
def Hu(X:jX->Option Int)(n:Nat):Nat->Q7:=sR ((Ht X n).1)
def acy(X:jX->Option Int){n:Nat}:Hu X n (m+1)=(Ht X n).1 (Hu X n m):=rfl
@[go_sem]def apG(X:jX->Option Int)(n:Nat)(m:Nat):=ud (Ht X n) (Hu X n) m
def aaL(X:jX->Option Int)(n:Nat):IT (amP X n) (kT jX.kr) 22:=mB
def Bw:Nat->jX->Option Int
 |0,_=>none
 |n+1,a0=>(aaL (Bw n) n).1 a0
def WU:∀n:Nat,tL fD 102 (kT jX.kr) (li .i64) (Bw n)
 |0=>fun _ _ h=>(by cases h)
 |n+1=>by
  have avT:=WU n;exact uy (aaL (Bw n) n) (gd (jR (lA (avT)) jU) jV) func102 ntmps102 results102
@[go_sem]def amQ:sN:=⟨[],[],(zA::zA::zK::zK::zA::zK::lH (lH [])),[oT kE.kr,oT kE.kr],none,none⟩
@[reducible] def afd:kL Bool:=mU fD f119 n (lR fD [.tmp 4] mh) (p4:=nR [([0,1,0,1,1],amQ)]) (tI:=lS []) (tX:=lS [])
@[go_sem]def aAo:qY (afd n) [0,0,0,1,0,0,1,0,1,1]=true:=jO
@[go_sem]abbrev amR(v0:Int)(o0 o1:kE):jT:=⟨(qA::qA::.ptr 0 0::.ptr 1 0::qA::.int .i64 v0::lM (lM [])),[.cells (kE.cells o0),.cells (kE.cells o1)],0,[]⟩
abbrev amS:=Int->kE->kE->Option Bool
abbrev axy(K:List Kt)(Z:amS):Prop:=∀v0 o0 o1,run (afd n) K (amR v0 o0 o1)=Z v0 o0 o1
def Ki:LB (axy n) [0,1,0,1,1] [.pF 0,.cut [1,1,1],.at [1,1,1]]:=mB
def Kj:Nat->amS:=sR ((Ki n).1)
def agH{n:Nat}:Kj n (m+1)=(Ki n).1 (Kj n m):=rfl
@[go_sem]def arB(m:Nat):=ud (Ki n) (Kj n) m
def afe:IO (afd n) (kT kE.kr) (kT kE.kr) 38:=mB
def aff:=fu fun n=>(afe n).1
def axz:∀n:Nat,th fD 119 (kT kE.kr) (kT kE.kr) mh (aff n):=vM fun n=>ug (afe n) (gd jU jV) func119 ntmps119 results119
@[go_sem]def acz:sN:=⟨[],[],(zA::zK::zA::zK::lH []),[oT jX.kr],none,none⟩
@[reducible] def agI:kL Int:=mU fD f305 n (lR fD [.tmp 2] (li .i64)) (p4:=nR [([0,0,1,1],acz)])
@[go_sem]abbrev acA(v0:Int)(o0:jX):jT:=⟨(qA::.ptr 0 0::qA::.int .i64 v0::lM []),[.cells (jX.cells o0)],0,[]⟩
abbrev acB:=Int->jX->Option Int
abbrev arC(K:List Kt)(Z:acB):Prop:=∀v0 o0,run (agI n) K (acA v0 o0)=Z v0 o0
def IU:LB (arC n) [0,0,1,1] [.pF 0,.cut [1,1,1],.at [1,1,1]]:=mB
def C2:Nat->acB:=sR ((IU n).1)
def an2{n:Nat}:C2 n (m+1)=(IU n).1 (C2 n m):=rfl
@[go_sem]def alY(m:Nat):=ud (IU n) (C2 n) m
def Un:IT (agI n) (kT jX.kr) 20:=mB
def Q8:=fu fun n=>(Un n).1
def arD:∀n:Nat,tL fD 305 (kT jX.kr) (li .i64) (Q8 n):=vD fun n=>uy (Un n) (gd jU jV) func305 ntmps305 results305
def aiX:sN:=⟨[],[],(zA::zK::zA::zK::zK::lH (lH (lH (l8 (l8 (zA::[])))))),[oT ky.kr,oA kW],none,none⟩
def agJ:sN:=⟨[],[],(zA::zK::zA::zL kW::zK::lH (lH (lH (l8 (l8 (zA::[])))))),[oT ky.kr],(some 3),none⟩
def aiY:sN:=⟨[(5,1,true)],[],(zA::zK::zA::zA::zA::zK::zK::lH (lH (lH (l8 (zA::zA::zA::[]))))),[oT ky.kr,oA kW],none,none⟩
@[reducible] def Kk:kL (List kp):=mU fD f65 n (lR fD [.tmp 2] (lz kW)) (p4:=nR [([0,1,0,1,0,1,1,1,0,1,0,1],agJ),([0,1,0,1,0,1,1,1,0,1,0,1],aiX),([0,1,0,1,0,1,1,1,1,1,0,1,0,1],aiY)])
attribute [go_sem] aiX agJ aiY
abbrev aiZ(v0:Int)(o0:ky)(r1:List kp)(c1:Nat):jT:=⟨(qA::.ptr 0 0::qA::.lV 1 c1::.int .i64 v0::lM (lM (lM (mc (mc (qA::[])))))),[.cells (ky.cells o0),.lV true 1 (mp kS r1)],0,[]⟩
abbrev ai0:List Kt:=[.pF 1,.cut [1,1,0,1,1,1,0,1,0,1],.at [1,1,0,1,1,1,0,1,0,1],.pF 0,.cut [1,1],.at [1,1]]
abbrev M4:=Int->ky->(List kp)->Option (List kp)
abbrev avU(K:List Kt)(Z:M4):Prop:=∀v0 o0 r1 c1,c1=r1.length->run (Kk n) K (aiZ v0 o0 r1 c1)=Z v0 o0 r1
abbrev ai1(v0:Int)(o0:ky)(r1:List kp)(c1:Nat):jT:=⟨(qA::.ptr 0 0::qA::qA::qA::.lV 1 c1::.int .i64 v0::lM (lM (lM (mc (qA::qA::qA::[]))))),[.cells (ky.cells o0),.lV true 1 (mp kS r1)],0,[]⟩
abbrev ai2:List Kt:=[.pF 3,.cut [1,1,0,1,1,1,1,1,0,1,0,1],.at [1,1,0,1,1,1,1,1,0,1,0,1],.pF 0,.cut [1,1],.at [1,1]]
abbrev avV(K:List Kt)(Z:M4):Prop:=∀v0 o0 r1 c1,c1=r1.length->run (Kk n) K (ai1 v0 o0 r1 c1)=Z v0 o0 r1
attribute [go_sem] aiZ ai0 ai1 ai2
def Hv:LB (avU n) [0,1,0,1,0,1,1,1,0,1,0,1] ai0:=by
 apply fU;intro m X0 ih v0 o0 r1 c1 ec1;subst ec1;simp (config:={maxSteps:=100000000}) only[go_sem,fI,fJ,fE,fF,fK,fL,fN,fO,fP,fG,fM,fQ,f65,fH,mixed,ih];exact rfl
def Hw:Nat->M4:=sR ((Hv n).1)
def acC{n:Nat}:Hw n (m+1)=(Hv n).1 (Hw n m):=rfl
def M5(m:Nat):=ud (Hv n) (Hw n) m
def Uo:{B:Nat->(List kp)->Int->ky->Option (List kp) //∀(m:Nat)(v0:List kp)(v1:Int)(o0:ky),run (Kk n) [.at [0,0,1,0,1,0,1,1,1,0,1,0,1],.lp m [0,1,0,1,0,1,1,1,0,1,0,1],.pF 1,.cut [1,1,0,1,1,1,0,1,0,1],.at [1,1,0,1,1,1,0,1,0,1],.pF 0,.cut [1,1],.at [1,1]] ⟨[qA,.ptr 0 0,qA,.kJ true 1 (mp kS v0),.int .i64 v1,qA,qA,qA,qA,qA,qA,qA,qA,qA,qA,qA,qA,qA,qA,qA,qA,qA,qA,qA,qA,qA,qA,qA,qA,qA,qA,qA,qA,qA,qA,qA,qA,qA,qA,qA,qA,qA,qA,qA,qA,qA,qA,qA,qA,qA,qA,qA,qA,qA,qA,qA,qA,qA,qA,qA,qA,qA],[.cells (ky.cells o0)],0,[]⟩=B m v0 v1 o0}:=by
 apply fU;intro m v0 v1 o0;simp (config:={maxSteps:=100000000}) only[go_sem,fI,fJ,fE,fF,fK,fL,fN,fO,fP,fG,fM,fQ,f65,fH,mixed,M5 n];exact rfl
def WV:Nat->(List kp)->Int->ky->Option (List kp)
 |0,_,_,_=>none
 |m+1,v0,v1,o0=>(Uo n).1 m v0 v1 o0
def Zp:∀(m:Nat),(∀(v0:List kp)(v1:Int)(o0:ky),run (Kk n) [.lq m [0,1,0,1,0,1,1,1,0,1,0,1],.pF 1,.cut [1,1,0,1,1,1,0,1,0,1],.at [1,1,0,1,1,1,0,1,0,1],.pF 0,.cut [1,1],.at [1,1]] ⟨[qA,.ptr 0 0,qA,.kJ true 1 (mp kS v0),.int .i64 v1,qA,qA,qA,qA,qA,qA,qA,qA,qA,qA,qA,qA,qA,qA,qA,qA,qA,qA,qA,qA,qA,qA,qA,qA,qA,qA,qA,qA,qA,qA,qA,qA,qA,qA,qA,qA,qA,qA,qA,qA,qA,qA,qA,qA,qA,qA,qA,qA,qA,qA,qA,qA,qA,qA,qA,qA,qA],[.cells (ky.cells o0)],0,[]⟩=WV n m v0 v1 o0)
 |0=>by intros;exact LO
 |m+1=>by
  intro v0 v1 o0;rw[Ec];exact(Uo n).2 m v0 v1 o0
def Hx:LB (avV n) [0,1,0,1,0,1,1,1,1,1,0,1,0,1] ai2:=by
 apply fU;intro m X0 ih v0 o0 r1 c1 ec1;subst ec1;simp (config:={maxSteps:=100000000}) only[go_sem,fI,fJ,fE,fF,fK,fL,fN,fO,fP,fG,fM,fQ,f65,fH,mixed,M5 n,Zp n,ih];exact rfl
def Hy:Nat->M4:=sR ((Hx n).1)
def acD{n:Nat}:Hy n (m+1)=(Hx n).1 (Hy n m):=rfl
def apH(m:Nat):=ud (Hx n) (Hy n) m
def aaM:IT (Kk n) (kT ky.kr) 62:=by
 apply fU;intro a0;simp (config:={maxSteps:=100000000}) only[go_sem,fI,fJ,fE,fF,fK,fL,fN,fO,fP,fG,fM,fQ,f65,fH,mixed,M5 n,Zp n,apH n];exact rfl
def Hz:=fu fun n=>(aaM n).1
def M6:∀n:Nat,tL fD 65 (kT ky.kr) (lz kW) (Hz n):=vD fun n=>uy (aaM n) (gd jU jV) func65 ntmps65 results65
open Go.Proofs
@[reducible] def avW:kL Bool:=mU fD f217 n (lR fD [.tmp 2] mh)
def M7:IT (avW n) (li .u8) 21:=mB
def IV:=fu fun n=>(M7 n).1
def atm:∀n:Nat,tL fD 217 (li .u8) mh (IV n):=vD fun n=>uy (M7 n) (gd jU jV) func217 ntmps217 results217
@[go_sem]def V0:sN:=⟨[],[],(zT (lz kW)::zK::zA::zA::zA::zK::l8 (l8 (l8 []))),[],none,none⟩
@[reducible] def asQ:kL Bool:=mU fD f64 n (lR fD [.tmp 4] mh) (p4:=nR [([0,1,0,1],V0)])
@[go_sem]abbrev V1(v0:List kp)(v1:kp)(v2:Int):jT:=⟨(.kJ false 1 (mp kS v0)::.str (sb v1)::qA::qA::qA::.int .i64 v2::mc (mc (mc []))),[],0,[]⟩
abbrev IW:=(List kp)->kp->Int->Option Bool
abbrev aAp(K:List Kt)(Z:IW):Prop:=∀v0 v1 v2,run (asQ n) K (V1 v0 v1 v2)=Z v0 v1 v2
def Ew:LB (aAp n) [0,1,0,1] [.pF 0,.cut [1,1],.at [1,1]]:=mB
def Ex:Nat->IW:=sR ((Ew n).1)
def M8{n:Nat}:Ex n (m+1)=(Ew n).1 (Ex n m):=rfl
@[go_sem]def atn(m:Nat):=ud (Ew n) (Ex n) m
def Zq:IO (asQ n) (lz kW) lW 18:=mB
def IX:=fu fun n=>(Zq n).1
def V2:∀n:Nat,th fD 64 (lz kW) lW mh (IX n):=vM fun n=>ug (Zq n) (gd jU jV) func64 ntmps64 results64
def ai3:sN:=⟨[],[],(zA::zK::zK::zK::zA::zA::zK::zA::zK::ux (lH (l8 (zA::zA::zA::[])))),[oT ky.kr,oK],none,none⟩
def ai4:sN:=⟨[],[],(zA::zK::zK::zK::zA::zA::zK::zK::zA::zK::ux (lH (l8 (zA::zA::[])))),[oT ky.kr,oK,oC [zK,zK,zK,zK,zK,zK,zK,zT (lz kE.row),zT (lz jX.row)]],none,none⟩
@[reducible] def FR:kL Entry:=mU fD f66 n (lR fD [.cell 6 63] (kT Entry.kr)) (p4:=nR [([0,1,0,1,1,0,1,1,1,1,1,1,1,0,1,0,1,1],ai3),([0,1,1,1,1,1,1,1,1,1,0,1,0,1,1],ai4)]) (tI:=lS []) (tX:=lS [])
def axA:an0 (FR n) [0,0,1,0,0,1,0,0,1,0,1,1,0,1,1,1,1,1,1,1,0,1,0,1,1] [0,0,1,0,0,1,0,0,1,1,1,1,1,1,1,1,1,0,1,0,1,1]:=⟨jO,jO⟩
def axB:vL (FR n) [0,0,1,0,0,1,0,0,1,0,1,1,0,1,1,1,1,1,1,1,0,1,0,1,1] 3 11 5 11 7 11 9 11/\vL (FR n) [0,0,1,0,0,1,0,0,1,1,1,1,1,1,1,1,1,0,1,0,1,1] 3 11 5 11 7 11 9 11:=⟨⟨jO,jO,jO,jO⟩,jO,jO,jO,jO⟩
attribute [go_sem] axA axB ai3 ai4
abbrev ai5(v0:Int)(v1:kp)(v2:Int)(o0:ky):jT:=⟨(qA::.int .i64 v0::.str (sb v1)::.ptr 0 0::qA::qA::.ptr 1 0::qA::.int .i64 v2::uw (lM (mc (qA::qA::qA::[])))),[.cells (ky.cells o0),.cells [.int .i64 0,.int .i64 0,.int .i64 0,.int .i64 0,.int .i64 0,.int .i64 0,.str (sb []),.kJ true 0 [],.kJ true 0 []]],0,[]⟩
abbrev ai6:List Kt:=[.pF 3,.cut [1,1,1,0,1,1,1,1,1,1,1,0,1,0,1,1],.at [1,1,1,0,1,1,1,1,1,1,1,0,1,0,1,1],.pF 0,.cut [1,1,1],.at [1,1,1]]
abbrev ai7:=Int->kp->Int->ky->Option Entry
abbrev avX(K:List Kt)(Z:ai7):Prop:=∀v0 v1 v2 o0,run (FR n) K (ai5 v0 v1 v2 o0)=Z v0 v1 v2 o0
abbrev ai8(v0:Int)(v1:kp)(v2:Int)(o0:ky)(v4 v5 v6 v7:Int)(v8:kp)(v9:List kE)(v10:List jX):jT:=⟨(qA::.int .i64 v0::.str (sb v1)::.ptr 0 0::qA::qA::.ptr 1 0::.ptr 2 0::qA::.int .i64 v2::uw (lM (mc (qA::qA::[])))),[.cells (ky.cells o0),.cells [.int .i64 0,.int .i64 0,.int .i64 0,.int .i64 0,.int .i64 0,.int .i64 0,.str (sb []),.kJ true 0 [],.kJ true 0 []],.cells [.int .i64 0,.int .i64 v4,.int .i64 0,.int .i64 v5,.int .i64 v6,.int .i64 v7,.str (sb v8),.kJ false 2 (mp kE.cells v9),.kJ false 5 (mp jX.cells v10)]],0,[]⟩
abbrev ai9:=Int->kp->Int->ky->Int->Int->Int->Int->kp->(List kE)->(List jX)->Option Entry
abbrev avY(K:List Kt)(Z:ai9):Prop:=∀v0 v1 v2 o0 v4 v5 v6 v7 v8 v9 v10,run (FR n) K (ai8 v0 v1 v2 o0 v4 v5 v6 v7 v8 v9 v10)=Z v0 v1 v2 o0 v4 v5 v6 v7 v8 v9 v10
attribute [go_sem] ai5 ai6 ai8
def HA:LB (avX n) [0,1,0,1,1,0,1,1,1,1,1,1,1,0,1,0,1,1] ai6:=mB
def HB:Nat->ai7:=sR ((HA n).1)
def acE{n:Nat}:HB n (m+1)=(HA n).1 (HB n m):=rfl
@[go_sem]def apI(m:Nat):=ud (HA n) (HB n) m
def HC:LB (avY n) [0,1,1,1,1,1,1,1,1,1,0,1,0,1,1] [.pF 1,.pF 0,.cut [1,1,1],.at [1,1,1]]:=mB
def HE:Nat->ai9:=sR ((HC n).1)
def acF{n:Nat}:HE n (m+1)=(HC n).1 (HE n m):=rfl
@[go_sem]def apJ(m:Nat):=ud (HC n) (HE n) m
def aaN:SC3 (FR n) (kT ky.kr) (li .i64) lW 96:=mB
def RB:=fu fun n=>(aaN n).1
def aja:∀n:Nat,apD fD 66 (kT ky.kr) (li .i64) lW (kT Entry.kr) (RB n):=aF4 fun n=>avJ (aaN n) (gd jU jV) func66 ntmps66 results66
@[reducible] def aAq:kL Int:=mU fD f216 n (lR fD [.tmp 2] (li .i64))
def V3:IT (aAq n) (li .i64) 15:=mB
def Qz:=fu fun n=>(V3 n).1
def axC:∀n:Nat,tL fD 216 (li .i64) (li .i64) (Qz n):=vD fun n=>uy (V3 n) (gd jU jV) func216 ntmps216 results216
@[go_sem]def ajb:sN:=⟨[],[],(zA::zK::zA::zK::lH (lH (lH (l8 (l8 (l8 (zA::zA::zA::[]))))))),[oT kE.kr],none,none⟩
@[reducible] def aaO:kL Bool:=mU fD f218 n (lR fD [.tmp 2] mh) (p4:=nR [([0,1,0,1,1],ajb)]) (tI:=lS []) (tX:=lS [])
@[go_sem]def axD:qY (aaO n) [0,0,1,1,0,0,1,0,0,1,0,1,1]=true:=jO
@[go_sem]abbrev ajc(v0:Int)(o0:kE):jT:=⟨(qA::.ptr 0 0::qA::.int .i64 v0::lM (lM (lM (mc (mc (mc (qA::qA::qA::[]))))))),[.cells (kE.cells o0)],0,[]⟩
abbrev ajd:=Int->kE->Option Bool
abbrev avZ(K:List Kt)(Z:ajd):Prop:=∀v0 o0,run (aaO n) K (ajc v0 o0)=Z v0 o0
def HF:LB (avZ n) [0,1,0,1,1] [.pF 0,.cut [1,1,1],.at [1,1,1]]:=mB
def HG:Nat->ajd:=sR ((HF n).1)
def acG{n:Nat}:HG n (m+1)=(HF n).1 (HG n m):=rfl
@[go_sem]def apK(m:Nat):=ud (HF n) (HG n) m
def aaP:IT (aaO n) (kT kE.kr) 67:=mB
def Zr:=fu fun n=>(aaP n).1
def av0:∀n:Nat,tL fD 218 (kT kE.kr) mh (Zr n):=vD fun n=>uy (aaP n) (gd jU jV) func218 ntmps218 results218
@[reducible] def axE:kL Int:=mU fD f117 n (lR fD [.tmp 4] (li .i64))
def Q9:IO (axE n) (li .i64) (li .i64) 27:=mB
def Ed:=fu fun n=>(Q9 n).1
def WW:∀n:Nat,th fD 117 (li .i64) (li .i64) (li .i64) (Ed n):=vM fun n=>ug (Q9 n) (gd jU jV) func117 ntmps117 results117
open Go.Proofs
def apL:sN:=⟨[(4,5,true)],[],(zA::zK::zA::zK::zK::lH (l8 (zA::zA::[]))),[oT jX.kr,oK,oA jX.row],none,none⟩
@[reducible] def Zs:kL ((List jX)×jX):=mU fD f321 n (lR fD [.tmp 2,.cell 3 49] (LQ (lz jX.row) (kT jX.kr))) (p4:=nR [([0,0,1,1],apL)]) (tI:=lS []) (tX:=lS [])
def aDG:qY (Zs n) [0,1,1,1]=true:=jO
def aDH:MV (Zs n) [0,1,1,1] 1 3=true:=jO
attribute [go_sem] aDG aDH apL
@[go_sem]abbrev apM(o0:jX)(r2:List jX)(c2:Nat):jT:=⟨(qA::.ptr 0 0::qA::.ptr 1 0::.lV 2 c2::lM (mc (qA::qA::[]))),[.cells (jX.cells o0),.cells [.int .i64 0,.int .i64 0,.str (sb []),.kJ true 0 [],.kJ true 0 []],.lV true 5 (mp jX.cells r2)],0,[]⟩
abbrev apN:=jX->(List jX)->Option ((List jX)×jX)
abbrev aAr(K:List Kt)(Z:apN):Prop:=∀o0 r2 c2,c2=r2.length->run (Zs n) K (apM o0 r2 c2)=Z o0 r2
def M9:LB (aAr n) [0,0,1,1] [.pF 0,.cut [1,1,1],.at [1,1,1]]:=mB
def V4:Nat->apN:=sR ((M9 n).1)
def aje{n:Nat}:V4 n (m+1)=(M9 n).1 (V4 n m):=rfl
@[go_sem]def ato(m:Nat):=ud (M9 n) (V4 n) m
def ajf:IT (Zs n) (kT jX.kr) 27:=mB
def alH:=fu fun n=>(ajf n).1
def aAs:∀n:Nat,tL fD 321 (kT jX.kr) (LQ (lz jX.row) (kT jX.kr)) (alH n):=vD fun n=>uy (ajf n) (gd jU jV) func321 ntmps321 results321
@[go_sem]def ajg:sN:=⟨[],[],(zK::l8 (zK::zA::zA::zT (lz jX.row)::zK::zK::lH (zA::zA::[]))),[],none,none⟩
@[reducible] def amT(X:Int->(List jX)->Option Int)(n:Nat):kL Int:=mU fD f97 n (lR fD [.tmp 4] (li .i64)) (cl:=lY [(97,nr (li .i64) (lz jX.row) (li .i64) X)]) (p4:=nR [([0,1,0,1,1],ajg)])
@[go_sem]abbrev ajh(v0 v1:Int)(v2:List jX)(v3 v4:Int):jT:=⟨(.int .i64 v0::mc (.int .i64 v1::qA::qA::.kJ false 5 (mp jX.cells v2)::.int .i64 v3::.int .i64 v4::lM (qA::qA::[]))),[],0,[]⟩
abbrev aji:=Int->Int->(List jX)->Int->Int->Option Int
abbrev av1(X:Int->(List jX)->Option Int)(n:Nat)(K:List Kt)(Z:aji):Prop:=∀v0 v1 v2 v3 v4,run (amT X n) K (ajh v0 v1 v2 v3 v4)=Z v0 v1 v2 v3 v4
def HH(X:Int->(List jX)->Option Int)(n:Nat):LB (av1 X n) [0,1,0,1,1] [.pF 0,.cut [1,1,1],.at [1,1,1]]:=mB
def HI(X:Int->(List jX)->Option Int)(n:Nat):Nat->aji:=sR ((HH X n).1)
def acH(X:Int->(List jX)->Option Int){n:Nat}:HI X n (m+1)=(HH X n).1 (HI X n m):=rfl
@[go_sem]def apO(X:Int->(List jX)->Option Int)(n:Nat)(m:Nat):=ud (HH X n) (HI X n) m
def aaQ(X:Int->(List jX)->Option Int)(n:Nat):IO (amT X n) (li .i64) (lz jX.row) 29:=mB
def Ee:Nat->Int->(List jX)->Option Int
 |0,_,_=>none
 |n+1,a0,a1=>(aaQ (Ee n) n).1 a0 a1
def ajj:∀n:Nat,th fD 97 (li .i64) (lz jX.row) (li .i64) (Ee n)
 |0=>fun _ _ _ h=>(by cases h)
 |n+1=>by
  have av2:=ajj n;exact ug (aaQ (Ee n) n) (gd (jR (lj (av2)) jU) jV) func97 ntmps97 results97
@[reducible] def axF:kL Bool:=mU fD f99 n (lR fD [.tmp 2] mh)
def aaR:IT (axF n) (kT kE.kr) 7:=mB
def ajk:=fu fun n=>(aaR n).1
def av3:∀n:Nat,tL fD 99 (kT kE.kr) mh (ajk n):=vD fun n=>uy (aaR n) (gd jU jV) func99 ntmps99 results99
def Na:sN:=⟨[],[],(zK::zA::zK::zK::lH (l8 (l8 []))),[oA jX.row],none,none⟩
@[reducible] def rk:kL (Tx×Unit):=mU fD f167 n (aru fD [] (tY (Uh false jX.row) rW) Fj 1) (p4:=nR [([0,1],Na)]) (tI:=lS []) (tX:=lS [])
def ahL:qY (rk n) [0,0,1,0,0,1]=true:=jO
def ahM:vL (rk n) [0,0,1,0,0,1] 6 13 7 13 10 13 11 13/\vL (rk n) [0,0,1,0,0,1] 12 13 13 14 6 15 7 15/\vL (rk n) [0,0,1,0,0,1] 10 15 11 15 12 15 13 15/\MV (rk n) [0,0,1,0,0,1] 14 15=true:=⟨⟨jO,jO,jO,jO⟩,⟨jO,jO,jO,jO⟩,⟨jO,jO,jO,jO⟩,jO⟩
attribute [go_sem] ahL ahM Na
@[go_sem]abbrev Nb(v0 v1:Int)(r0:List jX)(c0:Nat):jT:=⟨(.lV 0 c0::qA::.int .i64 v0::.int .i64 v1::lM (mc (mc []))),[.lV false 5 (mp jX.cells r0)],1,[]⟩
abbrev Nc:=Int->Int->(List jX)->Option (Tx×Unit)
abbrev afg(K:List Kt)(Z:Nc):Prop:=∀v0 v1 r0 c0,c0=r0.length->run (rk n) K (Nb v0 v1 r0 c0)=Z v0 v1 r0
def zF:LB (afg n) [0,1] [.pF 0]:=mB
def zG:Nat->Nc:=sR ((zF n).1)
def aaS{n:Nat}:zG n (m+1)=(zF n).1 (zG n m):=rfl
@[go_sem]def YN(m:Nat):=ud (zF n) (zG n) m
def F0:{B:(List jX)->Option (Tx×Unit) //∀(a0:(List jX)),run (rk n) [.at []] (ini ((asA 0 (fun(b:Tx)=>b.1.length) Ho).enc (a0,()) ()) 28 ((tY (Uh false jX.row) rW).enc (a0,())))=B a0}:=mB
def Cy:=fu fun n=>(F0 n).1
def afh:∀(n:Nat)(a0:(List jX))(r:(Tx×Unit)),Cy n a0=some r->FnG fD 167 ((asA 0 (fun(b:Tx)=>b.1.length) Ho).enc (a0,()) ()) ((tY (Uh false jX.row) rW).enc (a0,())) (fun o H'=>o=.ret (sE (Fj.enc r.1 r.2))/\H'=(tY (Uh false jX.row) rW).enc r.1)
 |0,_,_,h=>by cases h
 |n+1,a0,r,h=>by
  exact vh (M:=rk n) ⟨jU,jV,oX _,pJ _,q7,q8,rR,rH⟩ func167 rfl rfl (by simp only[go_sem,fI,fJ,fE,fF,fK,fL,fN,fO,fP,fG,fM,fQ]) ((tY (Uh false jX.row) rW).nb _ _) ntmps167 results167 (fun J hs=>Zl hs) (((F0 n).2 a0).trans h)
@[reducible] def atp:kL Int:=mU fD f105 n (lR fD [.tmp 2] (li .i64))
def Up:IT (atp n) (li .i64) 6:=mB
def qD:=fu fun n=>(Up n).1
def arE:∀n:Nat,tL fD 105 (li .i64) (li .i64) (qD n):=vD fun n=>uy (Up n) (gd jU jV) func105 ntmps105 results105
@[go_sem]def Ey:sN:=⟨[],[],(zT (lz kW)::zK::l8 (zA::zK::zK::l8 (l8 (zA::zA::[])))),[],none,none⟩
@[reducible] def Pv:kL Int:=mU fD f142 n (lR fD [.tmp 4] (li .i64)) (p4:=nR [([0,1,0,1],Ey)])
@[go_sem]abbrev Ez(v0:List kp)(v1:kp)(v2 v3:Int):jT:=⟨(.kJ false 1 (mp kS v0)::.str (sb v1)::mc (qA::.int .i64 v2::.int .i64 v3::mc (mc (qA::qA::[])))),[],0,[]⟩
abbrev zH:=(List kp)->kp->Int->Int->Option Int
abbrev afi(K:List Kt)(Z:zH):Prop:=∀v0 v1 v2 v3,run (Pv n) K (Ez v0 v1 v2 v3)=Z v0 v1 v2 v3
def wG:LB (afi n) [0,1,0,1] [.pF 0,.cut [1,1],.at [1,1]]:=mB
def wH:Nat->zH:=sR ((wG n).1)
def Kl{n:Nat}:wH n (m+1)=(wG n).1 (wH n m):=rfl
@[go_sem]def YO(m:Nat):=ud (wG n) (wH n) m
def F1:IO (Pv n) (lz kW) lW 19:=mB
def Cz:=fu fun n=>(F1 n).1
def afj:∀n:Nat,th fD 142 (lz kW) lW (li .i64) (Cz n):=vM fun n=>ug (F1 n) (gd jU jV) func142 ntmps142 results142
open Go.Proofs
@[reducible] def LU:kL Int:=mU fD f224 n (lR fD [.tmp 4] (li .i64)) (p4:=nR [([0,1,0,1],Ey)])
abbrev aaT(K:List Kt)(Z:zH):Prop:=∀v0 v1 v2 v3,run (LU n) K (Ez v0 v1 v2 v3)=Z v0 v1 v2 v3
def uX:LB (aaT n) [0,1,0,1] [.pF 0,.cut [1,1],.at [1,1]]:=mB
def uY:Nat->zH:=sR ((uX n).1)
def HJ{n:Nat}:uY n (m+1)=(uX n).1 (uY n m):=rfl
@[go_sem]def V5(m:Nat):=ud (uX n) (uY n) m
def C3:IO (LU n) (lz kW) lW 19:=mB
def A8:=fu fun n=>(C3 n).1
def aaU:∀n:Nat,th fD 224 (lz kW) lW (li .i64) (A8 n):=vM fun n=>ug (C3 n) (gd jU jV) func224 ntmps224 results224
@[reducible] def axG:kL Bool:=mU fD f196 n (lR fD [.tmp 2] mh)
def aaV:IT (axG n) (li .u8) 21:=mB
def Zt:=fu fun n=>(aaV n).1
def av4:∀n:Nat,tL fD 196 (li .u8) mh (Zt n):=vD fun n=>uy (aaV n) (gd jU jV) func196 ntmps196 results196
@[reducible] def al0:kL kp:=mU fD f241 n (lR fD [.tmp 2] (anV 274 (uO cS))) (cut:=MJ [([1,1],[0])])
def aSO:IT (al0 n) lW 4:=mB
def Zu:=fu fun n=>(aSO n).1
def ajl:∀n:Nat,tL fD 241 lW (anV 274 (uO cS)) (Zu n):=vD fun n=>uy (aSO n) (gd jU jV) func241 ntmps241 results241
def nZ:xP:=(aEU [] (sub [0,1,0,1,1] ((f199.body).getD .skip)))
def zI:nZ.ps.size=1/\∀j:Int,pX nZ.js j=none:=⟨jO,fun j=>(by show pX [] j=none;unfold pX aBC;cases (j==0)<;>rfl)⟩
@[go_sem]def lg:=(tg (avz nZ (alZ (l5 1 (Cn 7 kM)))) (tg (Bl (VY 2 kM)) (tg ogM Bi)))
@[go_sem]def mJ:=(tg (ogL nZ (alZ (l5 1 (Cn 7 kM)))) (tg (Bl (VY 2 kM)) (tg ogM Bi)))
def mr:kL (TE×(Bool×Unit)) where
 body:=.seq (aSN (sub [0,1,0,1,1] ((f199.body).getD .skip))) (alX (sub [0,1,0,1,1] ((f199.body).getD .skip)))
 P:=fD
 cl:=lY []
 cd:=yA []
 p4:=nR []
 cut:=MJ []
 n:=n
 out:=(fun _=>none)
 lR:=WO [] [] [0,1,2] 3 mJ
 wD:=lS []
def RC:(mr n).P=fD/\(mr n).cl=lY []/\(mr n).cd=yA []/\(mr n).p4=nR []/\(mr n).cut=MJ []/\(mr n).n=n/\(mr n).out=(fun _=>none)/\(mr n).lR=WO [] [] [0,1,2] 3 mJ/\(mr n).wD=lS []:=⟨rfl,rfl,rfl,rfl,rfl,rfl,rfl,rfl,rfl⟩
def RD:(mr n).body=.seq (aSN (sub [0,1,0,1,1] ((f199.body).getD .skip))) (alX (sub [0,1,0,1,1] ((f199.body).getD .skip))):=rfl
def RE:fV (aSN (sub [0,1,0,1,1] ((f199.body).getD .skip))) (alX (sub [0,1,0,1,1] ((f199.body).getD .skip)))=fV nZ.assign nZ.body:=jO
attribute [go_sem] RC RD zI
def Ef:{B:kp->Ta->Option (TE×(Bool×Unit)) //∀(a0:kp)(o0:Ta),run (mr n) [.at [0],.rb,.at [1],.rd] {kf:=aSL ((alZ (l5 1 (Cn 7 kM))).enc (lg.mo ((),(),o0,())) ()) [5] ((l1 lW kM).enc (lg.mo ((),(),o0,())) (a0,())),heap:=(lg.enc (lg.mo ((),(),o0,())) ((),(),o0,())),low:=(lg.enc (lg.mo ((),(),o0,())) ((),(),o0,())).length}=B a0 o0}:=mB
def GH:=fu fun n=>(Ef n).1
def QA:∀(n:Nat)(a0:kp)(o0:Ta)(r:(TE×(Bool×Unit))),GH n a0 o0=some r->FnT fD (WC fD) ((l1 lW kM).enc (lg.mo ((),(),o0,())) (a0,())) (lg.enc (lg.mo ((),(),o0,())) ((),(),o0,())) (fun o H'=>o=.ret (sE ((l1 mh kM).enc (mJ.mo r.1) r.2))/\H'=mJ.enc (mJ.mo r.1) r.1)
 |0,_,_,_,h=>by cases h
 |n+1,a0,o0,r,h=>by
  exact api (M:=mr n) (lk:=nZ) (kf:=((alZ (l5 1 (Cn 7 kM))).enc (lg.mo ((),(),o0,())) ())) ⟨jU,jV,oX _,pJ _,q7,q8,rR,rH⟩ RE (jO) ⟨jO,jO⟩ rfl (so (fS (jJ (jO)) (fT (lg.sz _ _).symm)) _ ((l1 lW kM).nb _ _)) (fun x hx=>Ak (fS (jJ (jO)) (fT (lg.sz _ _).symm)) _ (lg.nb _ _ x hx)) (fun e J hs=>aiN (js:=[]) (pos:=[]) (base:=[0,1,2]) (low:=3) (os:=mJ) (e:=e) (J:=J) (r:=r) (by rfl) hs) (((Ef n).2 a0 o0).trans h)
@[reducible] def aAt:kL jX:=mU fD f103 n (lR fD [.tmp 2] (anV 164 (uO jX.kr))) (cut:=MJ [([1,1],[0])])
def V6:IT (aAt n) (kT jX.kr) 4:=mB
def Lq:=fu fun n=>(V6 n).1
def amU:∀n:Nat,tL fD 103 (kT jX.kr) (anV 164 (uO jX.kr)) (Lq n):=vD fun n=>uy (V6 n) (gd jU jV) func103 ntmps103 results103
@[reducible] def aDI:kL (yH kn 13):=mU fD f165 n (lR fD [.cell 0 237] (kT (cA kn.kr 5 13)))
def Zv:SC0 (aDI n) 15:=by
 apply fU;simp (config:={maxSteps:=100000000}) only[go_sem,fI,fJ,fE,fF,fK,fL,fN,fO,fP,fG,fM,fQ,f165,fH,mixed,aaH];exact rfl
def QB:=fu fun n=>(Zv n).1
def apP:∀n:Nat,aIq fD 165 (kT (cA kn.kr 5 13)) (QB n):=aO1 fun n=>aO0 (Zv n) (gd jU jV) func165 ntmps165 results165
open Go.Proofs
def nU:xP:=(aEU [(1,.ret)] (sub [0,1,0,1,1] ((f109.body).getD .skip)))
def xY:nU.ps.size=2/\∀j:Int,pX nU.js j=bif j==0 then none else some .ret:=⟨jO,fun j=>rfl⟩
def n8:=(l1 (li .i64) (l1 (kT jX.kr) kM))
def lC:=(tg (avz nU (Cn 3 (l5 1 (l5 2 (Cn 25 kM))))) (tg (Bl (VX (cI .i64) 1 kM)) (tg (Bl (VX cB 1 kM)) Bi)))
def nn:=(tg (ogL nU (Cn 3 (l5 1 (l5 2 (Cn 25 kM))))) (tg (Bl (VX (cI .i64) 1 kM)) (tg (Bl (VX cB 1 kM)) Bi)))
attribute [go_sem] n8 lC nn
def mV:kL (Tg×(Bool×Unit)) where
 body:=.seq (aSN (sub [0,1,0,1,1] ((f109.body).getD .skip))) (alX (sub [0,1,0,1,1] ((f109.body).getD .skip)))
 P:=fD
 cl:=lY []
 cd:=yA []
 p4:=nR []
 cut:=MJ []
 n:=n
 out:=(fun _=>none)
 lR:=WO [(1,.ret)] [] [0,1,2] 3 nn
 wD:=lS []
def WX:(mV n).P=fD/\(mV n).cl=lY []/\(mV n).cd=yA []/\(mV n).p4=nR []/\(mV n).cut=MJ []/\(mV n).n=n/\(mV n).out=(fun _=>none)/\(mV n).lR=WO [(1,.ret)] [] [0,1,2] 3 nn/\(mV n).wD=lS []:=⟨rfl,rfl,rfl,rfl,rfl,rfl,rfl,rfl,rfl⟩
def WY:(mV n).body=.seq (aSN (sub [0,1,0,1,1] ((f109.body).getD .skip))) (alX (sub [0,1,0,1,1] ((f109.body).getD .skip))):=rfl
def WZ:fV (aSN (sub [0,1,0,1,1] ((f109.body).getD .skip))) (alX (sub [0,1,0,1,1] ((f109.body).getD .skip)))=fV nU.assign nU.body:=jO
attribute [go_sem] WX WY xY
def AD:{B:Int->jX->Int->Bool->Option (Tg×(Bool×Unit)) //∀(a0:Int)(a1:jX)(o0:Int)(o1:Bool),run (mV n) [.at [0],.rb,.at [1],.rd] {kf:=aSL ((Cn 3 (l5 1 (l5 2 (Cn 25 kM)))).enc (lC.mo ((),(o0,()),(o1,()),())) ()) [11,12] (n8.enc (lC.mo ((),(o0,()),(o1,()),())) (a0,a1,())),heap:=(lC.enc (lC.mo ((),(o0,()),(o1,()),())) ((),(o0,()),(o1,()),())),low:=(lC.enc (lC.mo ((),(o0,()),(o1,()),())) ((),(o0,()),(o1,()),())).length}=B a0 a1 o0 o1}:=mB
def xZ:=fu fun n=>(AD n).1
def V7:∀(n:Nat)(a0:Int)(a1:jX)(o0:Int)(o1:Bool)(r:(Tg×(Bool×Unit))),xZ n a0 a1 o0 o1=some r->FnT fD (WC fD) (n8.enc (lC.mo ((),(o0,()),(o1,()),())) (a0,a1,())) (lC.enc (lC.mo ((),(o0,()),(o1,()),())) ((),(o0,()),(o1,()),())) (fun o H'=>o=.ret (sE ((l1 mh kM).enc (nn.mo r.1) r.2))/\H'=nn.enc (nn.mo r.1) r.1)
 |0,_,_,_,_,_,h=>by cases h
 |n+1,a0,a1,o0,o1,r,h=>by
  exact api (M:=mV n) (lk:=nU) (kf:=((Cn 3 (l5 1 (l5 2 (Cn 25 kM)))).enc (lC.mo ((),(o0,()),(o1,()),())) ())) ⟨jU,jV,oX _,pJ _,q7,q8,rR,rH⟩ WZ (jO) ⟨jO,jO⟩ rfl (so (fS (jJ (jO)) (fT (lC.sz _ _).symm)) _ (n8.nb _ _)) (fun x hx=>Ak (fS (jJ (jO)) (fT (lC.sz _ _).symm)) _ (lC.nb _ _ x hx)) (fun e J hs=>aiN (js:=[(1,.ret)]) (pos:=[]) (base:=[0,1,2]) (low:=3) (os:=nn) (e:=e) (J:=J) (r:=r) (by rfl) hs) (((AD n).2 a0 a1 o0 o1).trans h)
@[reducible] def acI:kL Bool:=mU fD f173 n (lR fD [.tmp 2] mh)
def C4:IT (acI n) (kT kD.kr) 6:=mB
def A9:=fu fun n=>(C4 n).1
def aaW:∀n:Nat,tL fD 173 (kT kD.kr) mh (A9 n):=vD fun n=>uy (C4 n) (gd jU jV) func173 ntmps173 results173
@[reducible] def apQ:kL kI:=mU fD f219 n (lR fD [.tmp 2] (anV 259 (uO kI.kr))) (cut:=MJ [([1,1],[0])])
def Nd:IT (apQ n) (kT kI.kr) 4:=mB
def K4:=fu fun n=>(Nd n).1
def an3:∀n:Nat,tL fD 219 (kT kI.kr) (anV 259 (uO kI.kr)) (K4 n):=vD fun n=>uy (Nd n) (gd jU jV) func219 ntmps219 results219
@[reducible] def tB:kL (Tf×Unit):=mU fD f261 n (az7 fD [.tmp 2] 0 kW (rsA 0 (fun(b:Tf)=>b.1.length) Fj))
def LV:{B:kp->List kp->Option (Tf×Unit) //∀x xs,run (tB n) [.at []] {kf:=[(lz kW).enc (x::xs)]++fR 7 qA,heap:=[],low:=0}=B x xs}:=by
 apply fU;intro x xs;simp (config:={maxSteps:=100000000}) only[go_sem,fI,fJ,fE,fF,fK,fL,fN,fO,fP,fG,fM,fQ,f261,fH,mixed];exact rfl
def aaX(c:Nat):run (tB n) [.at []] {kf:=[.sX (.slice none 0 c)]++fR 7 qA,heap:=[],low:=0}=some (([],()),()):=by simp (config:={maxSteps:=100000000}) only[go_sem,fI,fJ,fE,fF,fK,fL,fN,fO,fP,fG,fM,fQ,f261,fH,mixed]
def aaY(a:Addr)(c:Nat):run (tB n) [.at []] {kf:=[.sX (.slice (some a) 0 c)]++fR 7 qA,heap:=[],low:=0}=some (([],()),()):=by simp (config:={maxSteps:=100000000}) only[go_sem,fI,fJ,fE,fF,fK,fL,fN,fO,fP,fG,fM,fQ,f261,fH,mixed]
def Pw:Nat->(List kp)->Option (Tf×Unit)
 |0,_=>none
 |_+1,[]=>some (([],()),())
 |n+1,x::xs=>(LV n).1 x xs
def aaZ:∀(n:Nat)(a0:(List kp))(r:(Tf×Unit)),Pw n a0=some r->FnG fD 261 (((asT (lz kW) Ho):GC Unit _).enc () (a0,())) (rW.enc ()) (fun o H'=>o=.ret (sE ((rsA 0 (fun(b:Tf)=>b.1.length) Fj).enc r.1 r.2))/\H'=(tY (Uh true kW) rW).enc r.1)
 |0,_,_,h=>by cases h
 |n+1,[],r,h=>by
  cases h
  exact aiR fun base c=>by
   cases base with
   |none=>exact vh (M:=tB n) ⟨jU,jV,oX _,pJ _,q7,q8,rR,rH⟩ func261 rfl rfl ⟨trivial,trivial⟩ (fun _ h=>by cases h) ntmps261 results261 (fun J hs=>Q6 hs) (aaX n c)
   |some a=>exact vh (M:=tB n) ⟨jU,jV,oX _,pJ _,q7,q8,rR,rH⟩ func261 rfl rfl ⟨trivial,trivial⟩ (fun _ h=>by cases h) ntmps261 results261 (fun J hs=>Q6 hs) (aaY n a c)
 |n+1,x::xs,r,h=>by
  exact vh (M:=tB n) ⟨jU,jV,oX _,pJ _,q7,q8,rR,rH⟩ func261 rfl rfl ⟨(lz kW).nb 0 _,trivial⟩ (rW.nb _ _) ntmps261 results261 (fun J hs=>Q6 hs) (((LV n).2 x xs).trans h)
@[go_sem]def aS3:sN:=⟨[],[],(zA::zK::zA::zK::lH (l8 (zA::zA::zA::zT (lz mL.row)::zK::zK::lH (l8 (l8 (l8 (zA::zA::zA::[]))))))),[oT ky.kr,oA kW],none,none⟩
@[go_sem]def aS4:sN:=⟨[(3,1,true)],[],(zA::zA::zA::zK::lH (lH (l8 (l8 (l8 (zT (lz qH.row)::zK::zK::l8 (l8 (zA::zA::[])))))))),[oD,oA kW],none,none⟩
@[reducible] def Nf:kL (List kp):=mU fD f264 n (lR fD [.tmp 2] (lz kW)) (p4:=nR [([0,1,0,1,0,1,1,1,0,1,0,1,1],aS3),([0,1,0,1,1,1,1,1,0,1,0,1,1],aS4)])
abbrev aS5(v0:List mL)(v1 v2:Int)(o0:ky)(r1:List kp)(c1:Nat):jT:=⟨(qA::.ptr 0 0::qA::.lV 1 c1::lM (mc (qA::qA::qA::.kJ false 6 (mp mL.cells v0)::.int .i64 v1::.int .i64 v2::lM (mc (mc (mc (qA::qA::qA::[]))))))),[.cells (ky.cells o0),.lV true 1 (mp kS r1)],0,[]⟩
abbrev aS6:List Kt:=[.pF 1,.cut [1,1,0,1,1,1,0,1,0,1,1],.at [1,1,0,1,1,1,0,1,0,1,1],.pF 0,.cut [1,1,1],.at [1,1,1]]
abbrev aS7:=(List mL)->Int->Int->ky->(List kp)->Option (List kp)
abbrev an4(K:List Kt)(Z:aS7):Prop:=∀v0 v1 v2 o0 r1 c1,c1=r1.length->run (Nf n) K (aS5 v0 v1 v2 o0 r1 c1)=Z v0 v1 v2 o0 r1
abbrev aS8(v0:List qH)(v1 v2:Int)(r1:List kp)(c1:Nat):jT:=⟨(qA::qA::qA::.lV 1 c1::lM (lM (mc (mc (mc (.kJ false 15 (mp qH.cells v0)::.int .i64 v1::.int .i64 v2::mc (mc (qA::qA::[])))))))),[.vz,.lV true 1 (mp kS r1)],0,[]⟩
abbrev aS9:=(List qH)->Int->Int->(List kp)->Option (List kp)
abbrev an5(K:List Kt)(Z:aS9):Prop:=∀v0 v1 v2 r1 c1,c1=r1.length->run (Nf n) K (aS8 v0 v1 v2 r1 c1)=Z v0 v1 v2 r1
attribute [go_sem] aS5 aS6 aS8
def AE:LB (an4 n) [0,1,0,1,0,1,1,1,0,1,0,1,1] aS6:=mB
def AF:Nat->aS7:=sR ((AE n).1)
def RF{n:Nat}:AF n (m+1)=(AE n).1 (AF n m):=rfl
@[go_sem]def ahN(m:Nat):=ud (AE n) (AF n) m
def AG:LB (an5 n) [0,1,0,1,1,1,1,1,0,1,0,1,1] [.pF 3,.pF 0,.cut [1,1,1],.at [1,1,1]]:=mB
def AH:Nat->aS9:=sR ((AG n).1)
def RG{n:Nat}:AH n (m+1)=(AG n).1 (AH n m):=rfl
@[go_sem]def ahO(m:Nat):=ud (AG n) (AH n) m
def Ng:IT (Nf n) (kT ky.kr) 61:=mB
def K5:=fu fun n=>(Ng n).1
def an6:∀n:Nat,tL fD 264 (kT ky.kr) (lz kW) (K5 n):=vD fun n=>uy (Ng n) (gd jU jV) func264 ntmps264 results264
@[go_sem]def aSP:sN:=⟨[],[],(zA::zA::zA::zK::zK::l8 (zA::zA::zT (lz jS.row)::zK::zK::l8 (zT (lz kW)::zK::zK::lH []))),[oK,oA kW],none,none⟩
@[go_sem]def Va:sN:=⟨[(4,1,true)],[],(zA::zA::zA::zK::zK::l8 (zA::zA::zT (lz jS.row)::zK::zK::lH (l8 (zA::zA::zA::[])))),[oK,oA kW],none,none⟩
@[reducible] def Lr:kL (List kp):=mU fD f55 n (lR fD [.tmp 2] (lz kW)) (p4:=nR [([0,1,1,0,0,1,1,0,0,1,0,1,1,1],aSP),([0,1,0,1,1,1],Va)])
abbrev Vb(v0:List jS)(v1 v2:Int)(v3:List kp)(v4 v5:Int)(r0:List (kp×Bool))(r1:List kp)(c1:Nat):jT:=⟨(qA::qA::qA::.map 0::.lV 1 c1::mc (qA::qA::.kJ false 4 (mp jS.cells v0)::.int .i64 v1::.int .i64 v2::mc (.kJ false 1 (mp kS v3)::.int .i64 v4::.int .i64 v5::lM []))),[.map (mp Hq r0),.lV true 1 (mp kS r1)],0,[]⟩
abbrev Vc(m2:Nat):List Kt:=[.pF 2,.pF 1,.cut [1,1,1,0,0,1,0,1,1,1],.at [1,1,1,0,0,1,0,1,1,1],.lp m2 [0,1,0,1,1,1],.pF 0,.cut [1,1,1,1],.at [1,1,1,1]]
abbrev Vd:=(List jS)->Int->Int->(List kp)->Int->Int->Ta->(List kp)->Option (List kp)
abbrev al1(K:List Kt)(Z:Vd):Prop:=∀v0 v1 v2 v3 v4 v5 r0 r1 c1,c1=r1.length->run (Lr n) K (Vb v0 v1 v2 v3 v4 v5 r0 r1 c1)=Z v0 v1 v2 v3 v4 v5 r0 r1
abbrev Ve(v0:List jS)(v1 v2:Int)(r0:List (kp×Bool))(r1:List kp)(c1:Nat):jT:=⟨(qA::qA::qA::.map 0::.lV 1 c1::mc (qA::qA::.kJ false 4 (mp jS.cells v0)::.int .i64 v1::.int .i64 v2::lM (mc (qA::qA::qA::[])))),[.map (mp Hq r0),.lV true 1 (mp kS r1)],0,[]⟩
abbrev CA:=(List jS)->Int->Int->Ta->(List kp)->Option (List kp)
abbrev JH(K:List Kt)(Z:CA):Prop:=∀v0 v1 v2 r0 r1 c1,c1=r1.length->run (Lr n) K (Ve v0 v1 v2 r0 r1 c1)=Z v0 v1 v2 r0 r1
attribute [go_sem] Vb Vc Ve
def zj:LB2 (JH n) [0,1,0,1,1,1] [.pF 0,.cut [1,1,1,1],.at [1,1,1,1]] (al1 n) [0,1,1,0,0,1,1,0,0,1,0,1,1,1] Vc:=mB
def CB(X2:CA):Nat->Vd:=sR ((zj n).1 X2)
def Px{n:Nat}(X2:CA):CB n X2 (m+1)=(zj n).1 X2 (CB n X2 m):=rfl
def afk{X2}(h2:JH n (.lq m2 [0,1,0,1,1,1]::[.pF 0,.cut [1,1,1,1],.at [1,1,1,1]]) X2)(m:Nat):=aDx (zj n) h2 (CB n X2) m
def zk:LB (JH n) [0,1,0,1,1,1] [.pF 0,.cut [1,1,1,1],.at [1,1,1,1]]:=by
 apply fU;intro m X0 ih v0 v1 v2 r0 r1 c1 ec1;subst ec1;simp (config:={maxSteps:=100000000}) only[go_sem,fI,fJ,fE,fF,fK,fL,fN,fO,fP,fG,fM,fQ,f55,fH,mixed,afk n ih,ih];exact rfl
def CC:Nat->CA:=sR ((zk n).1)
def Py{n:Nat}:CC n (m+1)=(zk n).1 (CC n m):=rfl
@[go_sem]def afl(m:Nat):=ud (zk n) (CC n) m
def Ls:IT (Lr n) (lz jS.row) 37:=mB
def Am:=fu fun n=>(Ls n).1
def JI:∀n:Nat,tL fD 55 (lz jS.row) (lz kW) (Am n):=vD fun n=>uy (Ls n) (gd jU jV) func55 ntmps55 results55
open Go.Proofs
def nE:xP:=(aEU [] (sub [0,1,0,1,1,1] ((f56.body).getD .skip)))
def wI:nE.ps.size=2/\∀j:Int,pX nE.js j=none:=⟨jO,fun j=>(by show pX [] j=none;unfold pX aBC;cases (j==0)<;>rfl)⟩
@[go_sem]def lu:=(tg (avz nE (Cn 3 (l5 1 (l5 2 (Cn 26 kM))))) (tg (Bl (VY 3 kM)) (tg (Bl (alA 4 kM)) (tg ogM (tg (ogA true kW) Bi)))))
@[go_sem]def mM:=(tg (ogL nE (Cn 3 (l5 1 (l5 2 (Cn 26 kM))))) (tg (Bl (VY 3 kM)) (tg (Bl (alA 4 kM)) (tg ogM (tg (ogA true kW) Bi)))))
def mG:kL (Ti×(Bool×Unit)) where
 body:=.seq (aSN (sub [0,1,0,1,1,1] ((f56.body).getD .skip))) (alX (sub [0,1,0,1,1,1] ((f56.body).getD .skip)))
 P:=fD
 cl:=lY []
 cd:=yA []
 p4:=nR []
 cut:=MJ []
 n:=n
 out:=(fun _=>none)
 lR:=WO [] [] [0,1,2,3,4] 5 mM
 wD:=lS []
def Uq:(mG n).P=fD/\(mG n).cl=lY []/\(mG n).cd=yA []/\(mG n).p4=nR []/\(mG n).cut=MJ []/\(mG n).n=n/\(mG n).out=(fun _=>none)/\(mG n).lR=WO [] [] [0,1,2,3,4] 5 mM/\(mG n).wD=lS []:=⟨rfl,rfl,rfl,rfl,rfl,rfl,rfl,rfl,rfl⟩
def Ur:(mG n).body=.seq (aSN (sub [0,1,0,1,1,1] ((f56.body).getD .skip))) (alX (sub [0,1,0,1,1,1] ((f56.body).getD .skip))):=rfl
def Us:fV (aSN (sub [0,1,0,1,1,1] ((f56.body).getD .skip))) (alX (sub [0,1,0,1,1,1] ((f56.body).getD .skip)))=fV nE.assign nE.body:=jO
attribute [go_sem] Uq Ur wI
def yV:{B:Int->jX->Ta->(List kp)->Option (Ti×(Bool×Unit)) //∀(a0:Int)(a1:jX)(o0:Ta)(o1:(List kp)),run (mG n) [.at [0],.rb,.at [1],.rd] {kf:=aSL ((Cn 3 (l5 1 (l5 2 (Cn 26 kM)))).enc (lu.mo ((),(),(),o0,o1,())) ()) [10,11] (n8.enc (lu.mo ((),(),(),o0,o1,())) (a0,a1,())),heap:=(lu.enc (lu.mo ((),(),(),o0,o1,())) ((),(),(),o0,o1,())),low:=(lu.enc (lu.mo ((),(),(),o0,o1,())) ((),(),(),o0,o1,())).length}=B a0 a1 o0 o1}:=mB
def wJ:=fu fun n=>(yV n).1
def RH:∀(n:Nat)(a0:Int)(a1:jX)(o0:Ta)(o1:(List kp))(r:(Ti×(Bool×Unit))),wJ n a0 a1 o0 o1=some r->FnT fD (WC fD) (n8.enc (lu.mo ((),(),(),o0,o1,())) (a0,a1,())) (lu.enc (lu.mo ((),(),(),o0,o1,())) ((),(),(),o0,o1,())) (fun o H'=>o=.ret (sE ((l1 mh kM).enc (mM.mo r.1) r.2))/\H'=mM.enc (mM.mo r.1) r.1)
 |0,_,_,_,_,_,h=>by cases h
 |n+1,a0,a1,o0,o1,r,h=>by
  exact api (M:=mG n) (lk:=nE) (kf:=((Cn 3 (l5 1 (l5 2 (Cn 26 kM)))).enc (lu.mo ((),(),(),o0,o1,())) ())) ⟨jU,jV,oX _,pJ _,q7,q8,rR,rH⟩ Us (jO) ⟨jO,jO⟩ rfl (so (fS (jJ (jO)) (fT (lu.sz _ _).symm)) _ (n8.nb _ _)) (fun x hx=>Ak (fS (jJ (jO)) (fT (lu.sz _ _).symm)) _ (lu.nb _ _ x hx)) (fun e J hs=>aiN (js:=[]) (pos:=[]) (base:=[0,1,2,3,4]) (low:=5) (os:=mM) (e:=e) (J:=J) (r:=r) (by rfl) hs) (((yV n).2 a0 a1 o0 o1).trans h)
@[go_sem]def lN:=(tg (Bl (VY 1 (VY 2 (VY 3 (l1 (li .i64) kM))))) (tg (atk (kT jS.kr)) (tg (atk (kT jS.kr)) (tg ogM Bi))))
@[go_sem]abbrev CD(F:Option (T7×Unit))(b:Unit)(a:Unit):=F
@[go_sem]def Vf(F:Option (T7×Unit)):=Hp [] Bi kM lN (l5 0 kM) (CD F)
@[reducible] def al2:kL (T7×Unit):=mU fD f75 n (xg fD [.tmp 0] [.arg 0 [],.vC 0 0 [],.vC 0 1 [],.vC 0 2 []] [] 0 lN (l5 0 kM))
def Vg:SX (al2 n) kM Bi 6 CD:=mC
def Zw:=fu fun n=>(Vg n).1
def ajm:∀n:Nat,zD fD 75 kM Bi lN (l5 0 kM) (CD (Zw n)):=WS fun n=>G6 (Vg n) (gd jU jV) func75 ntmps75 results75
@[reducible] def atq:kL Bool:=mU fD f78 n (lR fD [.tmp 2] mh)
def agK:IT (atq n) (kT jS.kr) 8:=mB
def FS:=fu fun n=>(agK n).1
def C5:∀n:Nat,tL fD 78 (kT jS.kr) mh (FS n):=vD fun n=>uy (agK n) (gd jU jV) func78 ntmps78 results78
@[reducible] def axH:kL Int:=mU fD f193 n (lR fD [.tmp 2] (li .i64))
def amV:IT (axH n) (li .u8) 28:=mB
def LW:=fu fun n=>(amV n).1
def HK:∀n:Nat,tL fD 193 (li .u8) (li .i64) (LW n):=vD fun n=>uy (amV n) (gd jU jV) func193 ntmps193 results193
def Nh:sN:=⟨[],[],(zK::l8 (l8 (zK::zK::zA::zK::ux (lH (l8 (l8 (l8 (zA::[])))))))),[oA kW],none,none⟩
def Zx:sN:=⟨[],[],(zK::l8 (l8 (zK::zK::zK::zK::ux (lH (l8 (l8 (l8 (zA::[])))))))),[oA kW],none,none⟩
def Zy:sN:=⟨[],[],(zK::zA::zA::zK::zK::zK::zK::ux (lH (lH (zA::zA::zA::[])))),[],none,none⟩
@[reducible] def IY:kL (List kp):=mU fD f240 n (lR fD [.tmp 2] (lz kW)) (p4:=nR [([0,0,1,1,1,1,0,1,0,0,0,1,1,1,1,1,1,1,1,1,1,1,1],Nh),([0,0,1,1,1,1,1,1,1,1,1,1,1,1],Zx),([0,0,1,1,1,1,1,1,1,1,1,1],Nh),([0,1,0,1,1,1,1],Zy)])
attribute [go_sem] Nh Zx Zy
abbrev Zz(v0:kp)(v1 v2:Int)(r0:List kp)(c0:Nat):jT:=⟨(.str (sb v0)::mc (mc (.lV 0 c0::.int .i64 v1::qA::.int .i64 v2::uw (lM (mc (mc (mc (qA::[])))))))),[.lV false 1 (mp kS r0)],0,[]⟩
abbrev ZA(m2:Nat):List Kt:=[.pF 6,.cut [1,1,1,1,1,0,1,0,0,0,1,1,1,1,1,1,1,1,1,1,1,1],.at [1,1,1,1,1,0,1,0,0,0,1,1,1,1,1,1,1,1,1,1,1,1],.pF 5,.lp m2 [0,0,1,1,1,1,1,1,1,1,1,1,1,1],.pF 4,.cut [1,1,1,1,1,1,1,1,1,1,1,1,1],.at [1,1,1,1,1,1,1,1,1,1,1,1,1]]
abbrev Ni:=kp->Int->Int->(List kp)->Option (List kp)
abbrev ZB(K:List Kt)(Z:Ni):Prop:=∀v0 v1 v2 r0 c0,c0=r0.length->run (IY n) K (Zz v0 v1 v2 r0 c0)=Z v0 v1 v2 r0
abbrev ZC(v0:kp)(v1 v2 v3:Int)(r0:List kp)(c0:Nat):jT:=⟨(.str (sb v0)::mc (mc (.lV 0 c0::.int .i64 v1::.int .i64 v2::.int .i64 v3::uw (lM (mc (mc (mc (qA::[])))))))),[.lV false 1 (mp kS r0)],0,[]⟩
abbrev GI:List Kt:=[.pF 4,.cut [1,1,1,1,1,1,1,1,1,1,1,1,1],.at [1,1,1,1,1,1,1,1,1,1,1,1,1]]
abbrev GJ:=kp->Int->Int->Int->(List kp)->Option (List kp)
abbrev Nj(K:List Kt)(Z:GJ):Prop:=∀v0 v1 v2 v3 r0 c0,c0=r0.length->run (IY n) K (ZC v0 v1 v2 v3 r0 c0)=Z v0 v1 v2 v3 r0
abbrev ZD:List Kt:=[.pF 2,.cut [1,1,1,1,1,1,1,1,1,1,1],.at [1,1,1,1,1,1,1,1,1,1,1]]
abbrev ZE(v0:kp)(v1 v2 v3 v4:Int):jT:=⟨(.str (sb v0)::qA::qA::.int .i64 v1::.int .i64 v2::.int .u8 v3::.int .i64 v4::uw (lM (lM (qA::qA::qA::[])))),[],0,[]⟩
abbrev ZF:=kp->Int->Int->Int->Int->Option (List kp)
abbrev apR(K:List Kt)(Z:ZF):Prop:=∀v0 v1 v2 v3 v4,run (IY n) K (ZE v0 v1 v2 v3 v4)=Z v0 v1 v2 v3 v4
attribute [go_sem] Zz ZA ZC GI ZD ZE
def Nk:LB2 (Nj n) [0,0,1,1,1,1,1,1,1,1,1,1,1,1] GI (ZB n) [0,0,1,1,1,1,0,1,0,0,0,1,1,1,1,1,1,1,1,1,1,1,1] ZA:=mB
def Nl(X2:GJ):Nat->Ni:=sR ((Nk n).1 X2)
def aD9{n:Nat}(X2:GJ):Nl n X2 (m+1)=(Nk n).1 X2 (Nl n X2 m):=rfl
def ajn{X2}(h2:Nj n (.lq m2 [0,0,1,1,1,1,1,1,1,1,1,1,1,1]::GI) X2)(m:Nat):=aDx (Nk n) h2 (Nl n X2) m
def Nn:LB (Nj n) [0,0,1,1,1,1,1,1,1,1,1,1,1,1] GI:=by
 apply fU;intro m X0 ih v0 v1 v2 v3 r0 c0 ec0;subst ec0;simp (config:={maxSteps:=100000000}) only[go_sem,fI,fJ,fE,fF,fK,fL,fN,fO,fP,fG,fM,fQ,f240,fH,mixed,ajn n ih,ih];exact rfl
def No:Nat->GJ:=sR ((Nn n).1)
def aEa{n:Nat}:No n (m+1)=(Nn n).1 (No n m):=rfl
@[go_sem]def ajo(m:Nat):=ud (Nn n) (No n) m
def Np:LB (ZB n) [0,0,1,1,1,1,1,1,1,1,1,1] ZD:=mB
def Nq:Nat->Ni:=sR ((Np n).1)
def aEb{n:Nat}:Nq n (m+1)=(Np n).1 (Nq n m):=rfl
@[go_sem]def ajp(m:Nat):=ud (Np n) (Nq n) m
def Nr:LB (apR n) [0,1,0,1,1,1,1] [.pF 0,.cut [1,1,1,1,1],.at [1,1,1,1,1]]:=mB
def Ns:Nat->ZF:=sR ((Nr n).1)
def aEc{n:Nat}:Ns n (m+1)=(Nr n).1 (Ns n m):=rfl
@[go_sem]def ajq(m:Nat):=ud (Nr n) (Ns n) m
def acJ:IT (IY n) lW 106:=mB
def ajr:=fu fun n=>(acJ n).1
def apS:∀n:Nat,tL fD 240 lW (lz kW) (ajr n):=vD fun n=>uy (acJ n) (gd jU jV) func240 ntmps240 results240
@[reducible] def arF:kL Bool:=mU fD f140 n (lR fD [.tmp 2] mh)
def acK:IT (arF n) (kT jS.kr) 12:=mB
def C6:=fu fun n=>(acK n).1
def Bx:∀n:Nat,tL fD 140 (kT jS.kr) mh (C6 n):=vD fun n=>uy (acK n) (gd jU jV) func140 ntmps140 results140
open Go.Proofs
@[reducible] def sj:kL (Tf×Unit):=mU fD f37 n (az7 fD [.tmp 2] 0 kW (rsA 0 (fun(b:Tf)=>b.1.length) Fj))
def Jn:{B:kp->List kp->Option (Tf×Unit) //∀x xs,run (sj n) [.at []] {kf:=[(lz kW).enc (x::xs)]++fR 7 qA,heap:=[],low:=0}=B x xs}:=by
 apply fU;intro x xs;simp (config:={maxSteps:=100000000}) only[go_sem,fI,fJ,fE,fF,fK,fL,fN,fO,fP,fG,fM,fQ,f37,fH,mixed];exact rfl
def aTa(c:Nat):run (sj n) [.at []] {kf:=[.sX (.slice none 0 c)]++fR 7 qA,heap:=[],low:=0}=some (([],()),()):=by simp (config:={maxSteps:=100000000}) only[go_sem,fI,fJ,fE,fF,fK,fL,fN,fO,fP,fG,fM,fQ,f37,fH,mixed]
def aTb(a:Addr)(c:Nat):run (sj n) [.at []] {kf:=[.sX (.slice (some a) 0 c)]++fR 7 qA,heap:=[],low:=0}=some (([],()),()):=by simp (config:={maxSteps:=100000000}) only[go_sem,fI,fJ,fE,fF,fK,fL,fN,fO,fP,fG,fM,fQ,f37,fH,mixed]
def yK:Nat->(List kp)->Option (Tf×Unit)
 |0,_=>none
 |_+1,[]=>some (([],()),())
 |n+1,x::xs=>(Jn n).1 x xs
def HL:∀(n:Nat)(a0:(List kp))(r:(Tf×Unit)),yK n a0=some r->FnG fD 37 (((asT (lz kW) Ho):GC Unit _).enc () (a0,())) (rW.enc ()) (fun o H'=>o=.ret (sE ((rsA 0 (fun(b:Tf)=>b.1.length) Fj).enc r.1 r.2))/\H'=(tY (Uh true kW) rW).enc r.1)
 |0,_,_,h=>by cases h
 |n+1,[],r,h=>by
  cases h
  exact aiR fun base c=>by
   cases base with
   |none=>exact vh (M:=sj n) ⟨jU,jV,oX _,pJ _,q7,q8,rR,rH⟩ func37 rfl rfl ⟨trivial,trivial⟩ (fun _ h=>by cases h) ntmps37 results37 (fun J hs=>Q6 hs) (aTa n c)
   |some a=>exact vh (M:=sj n) ⟨jU,jV,oX _,pJ _,q7,q8,rR,rH⟩ func37 rfl rfl ⟨trivial,trivial⟩ (fun _ h=>by cases h) ntmps37 results37 (fun J hs=>Q6 hs) (aTb n a c)
 |n+1,x::xs,r,h=>by
  exact vh (M:=sj n) ⟨jU,jV,oX _,pJ _,q7,q8,rR,rH⟩ func37 rfl rfl ⟨(lz kW).nb 0 _,trivial⟩ (rW.nb _ _) ntmps37 results37 (fun J hs=>Q6 hs) (((Jn n).2 x xs).trans h)
@[reducible] def sk:kL (TI×Unit):=mU fD f38 n (az7 fD [.tmp 2] 0 jS.row (rsA 0 (fun(b:TI)=>b.1.length) Fj))
def Jo:{B:jS->List jS->Option (TI×Unit) //∀x xs,run (sk n) [.at []] {kf:=[(lz jS.row).enc (x::xs)]++fR 7 qA,heap:=[],low:=0}=B x xs}:=by
 apply fU;intro x xs;simp (config:={maxSteps:=100000000}) only[go_sem,fI,fJ,fE,fF,fK,fL,fN,fO,fP,fG,fM,fQ,f38,fH,mixed];exact rfl
def aTc(c:Nat):run (sk n) [.at []] {kf:=[.sX (.slice none 0 c)]++fR 7 qA,heap:=[],low:=0}=some (([],()),()):=by simp (config:={maxSteps:=100000000}) only[go_sem,fI,fJ,fE,fF,fK,fL,fN,fO,fP,fG,fM,fQ,f38,fH,mixed]
def Xa(a:Addr)(c:Nat):run (sk n) [.at []] {kf:=[.sX (.slice (some a) 0 c)]++fR 7 qA,heap:=[],low:=0}=some (([],()),()):=by simp (config:={maxSteps:=100000000}) only[go_sem,fI,fJ,fE,fF,fK,fL,fN,fO,fP,fG,fM,fQ,f38,fH,mixed]
def LX:Nat->(List jS)->Option (TI×Unit)
 |0,_=>none
 |_+1,[]=>some (([],()),())
 |n+1,x::xs=>(Jo n).1 x xs
def Xb:∀(n:Nat)(a0:(List jS))(r:(TI×Unit)),LX n a0=some r->FnG fD 38 (((asT (lz jS.row) Ho):GC Unit _).enc () (a0,())) (rW.enc ()) (fun o H'=>o=.ret (sE ((rsA 0 (fun(b:TI)=>b.1.length) Fj).enc r.1 r.2))/\H'=(tY (Uh true jS.row) rW).enc r.1)
 |0,_,_,h=>by cases h
 |n+1,[],r,h=>by
  cases h
  exact aiR fun base c=>by
   cases base with
   |none=>exact vh (M:=sk n) ⟨jU,jV,oX _,pJ _,q7,q8,rR,rH⟩ func38 rfl rfl ⟨trivial,trivial⟩ (fun _ h=>by cases h) ntmps38 results38 (fun J hs=>Q6 hs) (aTc n c)
   |some a=>exact vh (M:=sk n) ⟨jU,jV,oX _,pJ _,q7,q8,rR,rH⟩ func38 rfl rfl ⟨trivial,trivial⟩ (fun _ h=>by cases h) ntmps38 results38 (fun J hs=>Q6 hs) (Xa n a c)
 |n+1,x::xs,r,h=>by
  exact vh (M:=sk n) ⟨jU,jV,oX _,pJ _,q7,q8,rR,rH⟩ func38 rfl rfl ⟨(lz jS.row).nb 0 _,trivial⟩ (rW.nb _ _) ntmps38 results38 (fun J hs=>Q6 hs) (((Jo n).2 x xs).trans h)
@[go_sem]def j5:=(tg (Bl (alS 141 0 (alA 1 (l1 (lz jS.row) (l1 mh kM))))) (tg ogB Bi))
@[go_sem]abbrev Ba(F:(List jS)->Bool->kp->Option TY)(b:T9)(a:Unit):=F b.1.1 b.1.2.1 b.2.1
@[go_sem]def Pz(F:(List jS)->Bool->kp->Option TY):=Hp [.arg 0 [],.vC 0 1 []] j5 (l5 0 kM) j5 (l1 (li .i64) kM) (Ba F)
@[reducible] def ahP:kL TY:=mU fD f186 n (xg fD [.tmp 2] [] [0,1] 2 j5 (l1 (li .i64) kM))
def PA:SX (ahP n) (l5 0 kM) j5 8 Ba:=mC
def Vh:=fu fun n=>(PA n).1
def afm:∀n:Nat,zD fD 186 (l5 0 kM) j5 j5 (l1 (li .i64) kM) (Ba (Vh n)):=WS fun n=>G6 (PA n) (gd jU jV) func186 ntmps186 results186
@[go_sem]def ui:=(l1 (li .i64) (alK (.sX .nilIface) aNH kM))
@[go_sem]abbrev uI(F:kp->(List jS)->Bool->kp->Option TY)(b:T9)(a:(kp×Unit)):=F a.1 b.1.1 b.1.2.1 b.2.1
@[go_sem]def Eg(F:kp->(List jS)->Bool->kp->Option TY):=Hp [.arg 0 [],.vC 0 1 []] j5 (l5 0 (l1 lW kM)) j5 ui (uI F)
@[reducible] def RI:kL TY:=mU fD f187 n (xg fD [.tmp 4,.tmp 5] [] [0,1] 2 j5 ui) (cl:=lY [(231,GF (Jm n))])
def Eh:SX (RI n) (l5 0 (l1 lW kM)) j5 19 uI:=mC
def GK:=fu fun n=>(Eh n).1
def QD:∀n:Nat,zD fD 187 (l5 0 (l1 lW kM)) j5 j5 ui (uI (GK n)):=WS fun n=>G6 (Eh n) (gd (jR (mY (fun b a r h=>(Uk n) b.1.1 b.1.2.1 b.2.1 r h)) jU) jV) func187 ntmps187 results187
@[reducible] def atr:kL Bool:=mU fD f127 n (lR fD [.tmp 2] mh)
def agL:IT (atr n) (li .i64) 17:=mB
def Ra:=fu fun n=>(agL n).1
def QE:∀n:Nat,tL fD 127 (li .i64) mh (Ra n):=vD fun n=>uy (agL n) (gd jU jV) func127 ntmps127 results127
def Km:sN:=⟨[],[],(zK::zA::zK::zK::lH (l8 (l8 []))),[oA Syntax.row],none,none⟩
@[reducible] def qv:kL (Tt×Unit):=mU fD f315 n (aru fD [] (tY (Uh false Syntax.row) rW) Fj 1) (p4:=nR [([0,1],Km)]) (tI:=lS []) (tX:=lS [])
def acL:qY (qv n) [0,0,1,0,0,1]=true:=jO
def acM:vL (qv n) [0,0,1,0,0,1] 6 13 7 13 10 13 11 13/\vL (qv n) [0,0,1,0,0,1] 12 13 13 14 6 15 7 15/\vL (qv n) [0,0,1,0,0,1] 10 15 11 15 12 15 13 15/\MV (qv n) [0,0,1,0,0,1] 14 15=true:=⟨⟨jO,jO,jO,jO⟩,⟨jO,jO,jO,jO⟩,⟨jO,jO,jO,jO⟩,jO⟩
attribute [go_sem] acL acM Km
@[go_sem]abbrev Kn(v0 v1:Int)(r0:List Syntax)(c0:Nat):jT:=⟨(.lV 0 c0::qA::.int .i64 v0::.int .i64 v1::lM (mc (mc []))),[.lV false 8 (mp Syntax.cells r0)],1,[]⟩
abbrev Ko:=Int->Int->(List Syntax)->Option (Tt×Unit)
abbrev aa0(K:List Kt)(Z:Ko):Prop:=∀v0 v1 r0 c0,c0=r0.length->run (qv n) K (Kn v0 v1 r0 c0)=Z v0 v1 r0
def B0:LB (aa0 n) [0,1] [.pF 0]:=mB
def B1:Nat->Ko:=sR ((B0 n).1)
def av5{n:Nat}:B1 n (m+1)=(B0 n).1 (B1 n m):=rfl
@[go_sem]def V8(m:Nat):=ud (B0 n) (B1 n) m
def LY:{B:(List Syntax)->Option (Tt×Unit) //∀(a0:(List Syntax)),run (qv n) [.at []] (ini ((asA 0 (fun(b:Tt)=>b.1.length) Ho).enc (a0,()) ()) 28 ((tY (Uh false Syntax.row) rW).enc (a0,())))=B a0}:=mB
def PB:=fu fun n=>(LY n).1
def aa1:∀(n:Nat)(a0:(List Syntax))(r:(Tt×Unit)),PB n a0=some r->FnG fD 315 ((asA 0 (fun(b:Tt)=>b.1.length) Ho).enc (a0,()) ()) ((tY (Uh false Syntax.row) rW).enc (a0,())) (fun o H'=>o=.ret (sE (Fj.enc r.1 r.2))/\H'=(tY (Uh false Syntax.row) rW).enc r.1)
 |0,_,_,h=>by cases h
 |n+1,a0,r,h=>by
  exact vh (M:=qv n) ⟨jU,jV,oX _,pJ _,q7,q8,rR,rH⟩ func315 rfl rfl (by simp only[go_sem,fI,fJ,fE,fF,fK,fL,fN,fO,fP,fG,fM,fQ]) ((tY (Uh false Syntax.row) rW).nb _ _) ntmps315 results315 (fun J hs=>Zl hs) (((LY n).2 a0).trans h)
open Go.Proofs
def acN:sN:=⟨[(3,1,true)],[],(zA::zA::zA::zK::l8 (zA::zT (lz j8.row)::zK::zK::lH (lH (l8 (l8 (zA::zA::zA::[])))))),[oD,oA kW],none,none⟩
@[reducible] def K6:kL kp:=mU fD f234 n (lR fD [.tmp 2] lW) (cl:=lY [(170,nh (li .i64) lW (strconv_Itoa n)),(260,nr (lz kW) lW lW (strings_Join n))]) (cd:=yA [(170,oV (nh (li .i64) lW (strconv_Itoa n)))]) (p4:=nR [([0,1,0,1,1,1],acN)]) (tI:=lS []) (tX:=lS [])
def att:qY (K6 n) [1,1,1,1,0,1,0,0,1,1,0,0,1,0,1,1,1]=true:=jO
def atu:axu (K6 n) [1,1,1,1,0,1,0,0,1,1,0,0,1,0,1,1,1] 2 9 5 9:=⟨jO,jO⟩
attribute [go_sem] att atu acN
@[go_sem]abbrev acO(v0:List j8)(v1 v2:Int)(r1:List kp)(c1:Nat):jT:=⟨(qA::qA::qA::.lV 1 c1::mc (qA::.kJ false 2 (mp j8.cells v0)::.int .i64 v1::.int .i64 v2::lM (lM (mc (mc (qA::qA::qA::[])))))),[.vz,.lV true 1 (mp kS r1)],0,[]⟩
abbrev acP:=(List j8)->Int->Int->(List kp)->Option kp
abbrev arG(K:List Kt)(Z:acP):Prop:=∀v0 v1 v2 r1 c1,c1=r1.length->run (K6 n) K (acO v0 v1 v2 r1 c1)=Z v0 v1 v2 r1
def QF:LB (arG n) [0,1,0,1,1,1] [.pF 0,.cut [1,1,1,1],.at [1,1,1,1]]:=mB
def QG:Nat->acP:=sR ((QF n).1)
def aF8{n:Nat}:QG n (m+1)=(QF n).1 (QG n m):=rfl
@[go_sem]def al3(m:Nat):=ud (QF n) (QG n) m
def agM:IT (K6 n) (kT jZ.kr) 55:=mB
def aa2:=fu fun n=>(agM n).1
def acQ:∀n:Nat,tL fD 234 (kT jZ.kr) lW (aa2 n):=vD fun n=>uy (agM n) (gd (jR (lA (K3 n)) (jR (lj (Ul n)) jU)) (k7 (nk (K3 n)) jV)) func234 ntmps234 results234
@[reducible] def al4:kL Int:=mU fD f302 n (lR fD [.tmp 4] (li .i64)) (cl:=lY [(143,nr lW (li .u8) (li .i64) (C1 n))])
def Vi:IO (al4 n) lW (li .u8) 8:=mB
def strings_IndexByte:=fu fun n=>(Vi n).1
def RJ:∀n:Nat,th fD 302 lW (li .u8) (li .i64) (strings_IndexByte n):=vM fun n=>ug (Vi n) (gd (jR (lj (MK n)) jU) jV) func302 ntmps302 results302
@[reducible] def aa3:kL Bool:=mU fD f303 n (lR fD [.tmp 2] mh)
def Kp:IT (aa3 n) (li .i32) 17:=mB
def Nt:=fu fun n=>(Kp n).1
def YP:∀n:Nat,tL fD 303 (li .i32) mh (Nt n):=vD fun n=>uy (Kp n) (gd jU jV) func303 ntmps303 results303
@[reducible] def V9:kL Bool:=mU fD f277 n (lR fD [.tmp 2] mh)
def GL:IT (V9 n) (li .i64) 5:=mB
def strings_shouldUseASCIISet:=fu fun n=>(GL n).1
def Ut:∀n:Nat,tL fD 277 (li .i64) mh (strings_shouldUseASCIISet n):=vD fun n=>uy (GL n) (gd jU jV) func277 ntmps277 results277
@[go_sem]def kG:=(tg (Bl (VX Syntax.kr 8 kM)) (tg (Bl (VX (cI .i64) 1 kM)) (tg (Bl (VX (cI .i64) 1 kM)) Bi)))
@[reducible] def EA:kL (Tl×Unit):=mU fD f41 n (xg fD [] [] [0,1,2] 3 kG kM)
def Xc:{B:Syntax->Int->Int->Option (Tl×Unit) //∀(o0:Syntax)(o1:Int)(o2:Int),run (EA n) [.kH (uc (EA n) [0]) ((uc (EA n) [0]).toList.drop 1),.cut [1],.at [1]] (jT.put {kf:=((l5 0 (l5 1 (l5 2 kM))).enc (kG.mo ((o0,()),(o1,()),(o2,()),())) ())++fR (15-((l5 0 (l5 1 (l5 2 kM))).enc (kG.mo ((o0,()),(o1,()),(o2,()),())) ()).length) qA,heap:=(kG.enc (kG.mo ((o0,()),(o1,()),(o2,()),())) ((o0,()),(o1,()),(o2,()),())),low:=(kG.enc (kG.mo ((o0,()),(o1,()),(o2,()),())) ((o0,()),(o1,()),(o2,()),())).length} (some 5) (.sX .nilIface))=B o0 o1 o2}:=mB
def IZ:=fu fun n=>(Xc n).1
def al5:∀(n:Nat)(o0:Syntax)(o1:Int)(o2:Int)(r:(Tl×Unit)),IZ n o0 o1 o2=some r->FnT fD (axk fD 41) ((l5 0 (l5 1 (l5 2 kM))).enc (kG.mo ((o0,()),(o1,()),(o2,()),())) ()) (kG.enc (kG.mo ((o0,()),(o1,()),(o2,()),())) ((o0,()),(o1,()),(o2,()),())) (fun o H'=>o=(enR kG kM r).1/\H'=(enR kG kM r).2)
 |0,_,_,_,_,h=>by cases h
 |n+1,o0,o1,o2,r,h=>by
  exact apB (M:=EA n) (p1:=[]) (b1:=[0,1,2]) (args:=((l5 0 (l5 1 (l5 2 kM))).enc (kG.mo ((o0,()),(o1,()),(o2,()),())) ())) ⟨jU,jV,oX _,pJ _,q7,q8,rR,rH⟩ func41 rfl (jO) (so (fS (jJ (jO)) (fT (kG.sz _ _).symm)) _ ((l5 0 (l5 1 (l5 2 kM))).nb (kG.mo ((o0,()),(o1,()),(o2,()),())) ())) (fun x hx=>Ak (fS (jJ (jO)) (fT (kG.sz _ _).symm)) _ (kG.nb _ _ x hx)) ntmps41 results41 (low:=3) (by rfl) rfl (((Xc n).2 o0 o1 o2).trans h)
@[go_sem]def j3:=(l1 (aaJ 85 (kT kj.kr)) kM)
@[go_sem]abbrev K7(F:kj->Option (Unit×T8))(b:Unit)(a:T8):=F a.1
@[go_sem]def agN(F:kj->Option (Unit×T8)):=Hp [] Bi j3 Bi (l1 (kT kj.kr) kM) (K7 F)
@[reducible] def atv:kL (Unit×T8):=mU fD f42 n (xg fD [.cell 2 85] [] [] 0 Bi (l1 (kT kj.kr) kM))
def agO:SX (atv n) j3 Bi 14 K7:=mC
def amW:=fu fun n=>(agO n).1
def arH:∀n:Nat,zD fD 42 j3 Bi Bi (l1 (kT kj.kr) kM) (K7 (amW n)):=WS fun n=>G6 (agO n) (gd jU jV) func42 ntmps42 results42
open Go.Proofs
@[reducible] def Nu:kL Bool:=mU fD f280 n (lR fD [.tmp 4] mh)
def By:IO (Nu n) lW lW 18:=mB
def C7:=fu fun n=>(By n).1
def ML:∀n:Nat,th fD 280 lW lW mh (C7 n):=vM fun n=>ug (By n) (gd jU jV) func280 ntmps280 results280
@[go_sem]def LZ:sN:=⟨[],[],(zK::l8 (zK::lH (lH (l8 (l8 (l8 (zA::[]))))))),[oC [zK,zK,zK,zK,zK],oK,oK,oK],none,none⟩
@[go_sem]def ld:=(tg (Bl (l1 lW (l1 (li .i64) (VY 1 (VY 2 (VY 3 kM)))))) (tg ogM (tg ogM (tg ogM Bi))))
@[go_sem]def oW:=(l1 (li .i64) (l1 (li .i64) (l1 (li .i64) kM)))
@[go_sem]abbrev pu(F:kp->Int->Ta->Ta->Ta->Option TH)(b:To)(a:Unit):=F b.1.1 b.1.2.1 b.2.1 b.2.2.1 b.2.2.2.1
@[go_sem]def wK(F:kp->Int->Ta->Ta->Ta->Option TH):=Hp [.arg 0 [],.vC 0 2 [],.vC 0 3 [],.vC 0 4 []] ld (l5 0 kM) ld oW (pu F)
@[reducible] def EB:kL TH:=mU fD f200 n (xg fD [.tmp 2,.tmp 3,.tmp 4] [] [0,1,2,3] 4 ld oW) (p4:=nR [([0,1,0,1],LZ)]) (tI:=lS []) (tX:=lS [])
@[go_sem]def afn:aF3 (EB n) [0,0,0,1,0,0,1,0,1] [0,0,1] [0,0,1,0,0,1,0,0,1,0,1] [0,1,1]:=⟨jO,jO,jO,jO⟩
@[go_sem]abbrev L0(v0:Int)(v1:kp)(v2:Int)(r1 r2 r3:List (kp×Bool)):jT:=⟨(.ptr 0 0::mc (.int .i64 v0::lM (lM (mc (mc (mc (qA::[]))))))),[.cells [.str (sb v1),.int .i64 v2,.map 1,.map 2,.map 3],.map (mp Hq r1),.map (mp Hq r2),.map (mp Hq r3)],4,[]⟩
abbrev pM:=Int->kp->Int->Ta->Ta->Ta->Option TH
abbrev acR(K:List Kt)(Z:pM):Prop:=∀v0 v1 v2 r1 r2 r3,run (EB n) K (L0 v0 v1 v2 r1 r2 r3)=Z v0 v1 v2 r1 r2 r3
def C8:LB (acR n) [0,1,0,1] [.pF 0,.cut [1,1],.at [1,1]]:=mB
def C9:Nat->pM:=sR ((C8 n).1)
def awX{n:Nat}:C9 n (m+1)=(C8 n).1 (C9 n m):=rfl
@[go_sem]def Xd(m:Nat):=ud (C8 n) (C9 n) m
def Nv:SX (EB n) (l5 0 kM) ld 51 pu:=mC
def RL:=fu fun n=>(Nv n).1
def acS:∀n:Nat,zD fD 200 (l5 0 kM) ld ld oW (pu (RL n)):=WS fun n=>G6 (Nv n) (gd jU jV) func200 ntmps200 results200
@[go_sem]def lJ:=(tg (Bl (l5 1 kM)) (tg (Bl (VX jQ.kr 6 kM)) Bi))
@[reducible] def YQ:kL TV:=mU fD f83 n (xg fD [] [] [0,1] 2 lJ kM)
def Jp:{B:jQ->Option TV //∀(o0:jQ),run (YQ n) [.at []] (aAj (l5 0 kM) lJ ((),(o0,()),()) () 8)=B o0}:=mB
def Da:=fu fun n=>(Jp n).1
def Xe:∀(n:Nat)(o0:jQ)(r:TV),Da n o0=some r->SD fD 83 (l5 0 kM) lJ ((),(o0,()),()) () lJ kM r
 |0,_,_,h=>by cases h
 |n+1,o0,r,h=>by
  exact okD (((Jp n).2 o0).trans h) (gd jU jV) func83 ntmps83 results83
@[reducible] def F2:kL lD:=mU fD f94 n (lR fD [.cell 2 170] (kT lD.kr)) (tI:=lS []) (tX:=lS [])
@[go_sem]def ahQ:qY (F2 n) [0,1]=true:=jO
@[go_sem]def ahR:vL (F2 n) [0,1] 3 10 7 10 8 10 9 10:=⟨jO,jO,jO,jO⟩
def PC:IT (F2 n) (uO jQ.kr) 13:=mB
def ny:=fu fun n=>(PC n).1
def mP:∀n:Nat,tL fD 94 (uO jQ.kr) (kT lD.kr) (ny n):=vD fun n=>uy (PC n) (gd jU jV) func94 ntmps94 results94
@[reducible] def qO:kL T17:=mU fD f247 n (aFU fD [.tmp 2] 0 jZ.row (rsA 0 (fun(b:(Tj×Unit))=>b.1.length) Fj))
def Fk:{B:jZ->List jZ->Option T17 //∀x xs,run (qO n) [.at []] {kf:=[(lz jZ.row).enc (x::xs)]++fR 7 qA,heap:=[],low:=0}=B x xs}:=by
 apply fU;intro x xs;simp (config:={maxSteps:=100000000}) only[go_sem,fI,fJ,fE,fF,fK,fL,fN,fO,fP,fG,fM,fQ,f247,fH,mixed];exact rfl
def RM(c:Nat):run (qO n) [.at []] {kf:=[.sX (.slice none 0 c)]++fR 7 qA,heap:=[],low:=0}=some (([],()),()):=by simp (config:={maxSteps:=100000000}) only[go_sem,fI,fJ,fE,fF,fK,fL,fN,fO,fP,fG,fM,fQ,f247,fH,mixed]
def RN(a:Addr)(c:Nat):run (qO n) [.at []] {kf:=[.sX (.slice (some a) 0 c)]++fR 7 qA,heap:=[],low:=0}=some (([],()),()):=by simp (config:={maxSteps:=100000000}) only[go_sem,fI,fJ,fE,fF,fK,fL,fN,fO,fP,fG,fM,fQ,f247,fH,mixed]
def HM:Nat->Tj->Option T17
 |0,_=>none
 |_+1,[]=>some (([],()),())
 |n+1,x::xs=>(Fk n).1 x xs
def RO:∀(n:Nat)(a0:Tj)(r:T17),HM n a0=some r->FnG fD 247 (((asT (lz jZ.row) Ho):GC Unit _).enc () (a0,())) (rW.enc ()) (fun o H'=>o=.ret (sE ((rsA 0 (fun(b:(Tj×Unit))=>b.1.length) Fj).enc r.1 r.2))/\H'=(tY (Uh false jZ.row) rW).enc r.1)
 |0,_,_,h=>by cases h
 |n+1,[],r,h=>by
  cases h
  exact aiR fun base c=>by
   cases base with
   |none=>exact vh (M:=qO n) ⟨jU,jV,oX _,pJ _,q7,q8,rR,rH⟩ func247 rfl rfl ⟨trivial,trivial⟩ (fun _ h=>by cases h) ntmps247 results247 (fun J hs=>alG hs) (RM n c)
   |some a=>exact vh (M:=qO n) ⟨jU,jV,oX _,pJ _,q7,q8,rR,rH⟩ func247 rfl rfl ⟨trivial,trivial⟩ (fun _ h=>by cases h) ntmps247 results247 (fun J hs=>alG hs) (RN n a c)
 |n+1,x::xs,r,h=>by
  exact vh (M:=qO n) ⟨jU,jV,oX _,pJ _,q7,q8,rR,rH⟩ func247 rfl rfl ⟨(lz jZ.row).nb 0 _,trivial⟩ (rW.nb _ _) ntmps247 results247 (fun J hs=>alG hs) (((Fk n).2 x xs).trans h)
@[reducible] def tC:kL (Tt×Unit):=mU fD f249 n (aFU fD [.tmp 2] 0 Syntax.row (rsA 0 (fun(b:Tt)=>b.1.length) Fj))
def L1:{B:Syntax->List Syntax->Option (Tt×Unit) //∀x xs,run (tC n) [.at []] {kf:=[(lz Syntax.row).enc (x::xs)]++fR 7 qA,heap:=[],low:=0}=B x xs}:=by
 apply fU;intro x xs;simp (config:={maxSteps:=100000000}) only[go_sem,fI,fJ,fE,fF,fK,fL,fN,fO,fP,fG,fM,fQ,f249,fH,mixed];exact rfl
def aa4(c:Nat):run (tC n) [.at []] {kf:=[.sX (.slice none 0 c)]++fR 7 qA,heap:=[],low:=0}=some (([],()),()):=by simp (config:={maxSteps:=100000000}) only[go_sem,fI,fJ,fE,fF,fK,fL,fN,fO,fP,fG,fM,fQ,f249,fH,mixed]
def aa5(a:Addr)(c:Nat):run (tC n) [.at []] {kf:=[.sX (.slice (some a) 0 c)]++fR 7 qA,heap:=[],low:=0}=some (([],()),()):=by simp (config:={maxSteps:=100000000}) only[go_sem,fI,fJ,fE,fF,fK,fL,fN,fO,fP,fG,fM,fQ,f249,fH,mixed]
def PD:Nat->(List Syntax)->Option (Tt×Unit)
 |0,_=>none
 |_+1,[]=>some (([],()),())
 |n+1,x::xs=>(L1 n).1 x xs
def aa6:∀(n:Nat)(a0:(List Syntax))(r:(Tt×Unit)),PD n a0=some r->FnG fD 249 (((asT (lz Syntax.row) Ho):GC Unit _).enc () (a0,())) (rW.enc ()) (fun o H'=>o=.ret (sE ((rsA 0 (fun(b:Tt)=>b.1.length) Fj).enc r.1 r.2))/\H'=(tY (Uh false Syntax.row) rW).enc r.1)
 |0,_,_,h=>by cases h
 |n+1,[],r,h=>by
  cases h
  exact aiR fun base c=>by
   cases base with
   |none=>exact vh (M:=tC n) ⟨jU,jV,oX _,pJ _,q7,q8,rR,rH⟩ func249 rfl rfl ⟨trivial,trivial⟩ (fun _ h=>by cases h) ntmps249 results249 (fun J hs=>alG hs) (aa4 n c)
   |some a=>exact vh (M:=tC n) ⟨jU,jV,oX _,pJ _,q7,q8,rR,rH⟩ func249 rfl rfl ⟨trivial,trivial⟩ (fun _ h=>by cases h) ntmps249 results249 (fun J hs=>alG hs) (aa5 n a c)
 |n+1,x::xs,r,h=>by
  exact vh (M:=tC n) ⟨jU,jV,oX _,pJ _,q7,q8,rR,rH⟩ func249 rfl rfl ⟨(lz Syntax.row).nb 0 _,trivial⟩ (rW.nb _ _) ntmps249 results249 (fun J hs=>alG hs) (((L1 n).2 x xs).trans h)
open Go.Proofs
@[reducible] def sP:kL (List j8):=mU fD f248 n (lR fD [.tmp 2] (lz j8.row))
def Kq:{B:j8->List j8->Option (List j8) //∀x xs,run (sP n) [.at []] {kf:=[(lz j8.row).enc (x::xs)]++fR 7 qA,heap:=[]}=B x xs}:=by
 apply fU;intro x xs;simp (config:={maxSteps:=100000000}) only[go_sem,fI,fJ,fE,fF,fK,fL,fN,fO,fP,fG,fM,fQ,f248,fH,mixed];exact rfl
def YR(c:Nat):run (sP n) [.at []] {kf:=[.sX (.slice none 0 c)]++fR 7 qA,heap:=[]}=some []:=by simp (config:={maxSteps:=100000000}) only[go_sem,fI,fJ,fE,fF,fK,fL,fN,fO,fP,fG,fM,fQ,f248,fH,mixed]
def YS(a:Addr)(c:Nat):run (sP n) [.at []] {kf:=[.sX (.slice (some a) 0 c)]++fR 7 qA,heap:=[]}=some []:=by simp (config:={maxSteps:=100000000}) only[go_sem,fI,fJ,fE,fF,fK,fL,fN,fO,fP,fG,fM,fQ,f248,fH,mixed]
def Nw:Nat->(List j8)->Option (List j8)
 |0,_=>none
 |_+1,[]=>some []
 |n+1,x::xs=>(Kq n).1 x xs
def YT:∀(n:Nat)(a0:(List j8))(r:(List j8)),Nw n a0=some r->JE fD 248 [(lz j8.row).enc a0] (fun v=>v=(lz j8.row).enc r)
 |0,_,_,h=>by cases h
 |n+1,[],r,h=>by
  cases h
  exact aKu fun base c=>by
   cases base with
   |none=>exact apj (M:=sP n) ⟨jU,jV,oX _,pJ _,q7,q8,rR,rH⟩ func248 rfl rfl ⟨trivial,trivial⟩ ntmps248 results248 (fun J hs=>aly (P:=fD) (rs:=[.tmp 2]) (t:=(lz j8.row)) (J:=J) hs) (YR n c)
   |some a=>exact apj (M:=sP n) ⟨jU,jV,oX _,pJ _,q7,q8,rR,rH⟩ func248 rfl rfl ⟨trivial,trivial⟩ ntmps248 results248 (fun J hs=>aly (P:=fD) (rs:=[.tmp 2]) (t:=(lz j8.row)) (J:=J) hs) (YS n a c)
 |n+1,x::xs,r,h=>by
  exact apj (M:=sP n) ⟨jU,jV,oX _,pJ _,q7,q8,rR,rH⟩ func248 rfl rfl ⟨(lz j8.row).nb 0 _,trivial⟩ ntmps248 results248 (fun J hs=>aly (P:=fD) (rs:=[.tmp 2]) (t:=(lz j8.row)) (J:=J) hs) (((Kq n).2 x xs).trans h)
@[reducible] def CE:kL Int:=mU fD f205 n (lR fD [.tmp 2] (li .i64)) (tI:=lS []) (tX:=lS [])
@[go_sem]def al6:an0 (CE n) [0,1,1] [0,1,1,1]:=⟨jO,jO⟩
@[go_sem]def al7:vL (CE n) [0,1,1] 3 12 7 12 9 12 10 12/\MV (CE n) [0,1,1] 11 12=true:=⟨⟨jO,jO,jO,jO⟩,jO⟩
def Vj:IT (CE n) (uO jQ.kr) 35:=mB
def uJ:=fu fun n=>(Vj n).1
def tM:∀n:Nat,tL fD 205 (uO jQ.kr) (li .i64) (uJ n):=vD fun n=>uy (Vj n) (gd jU jV) func205 ntmps205 results205
@[reducible] def acT:kL TG:=mU fD f206 n (lR fD [.tmp 2] (anV 246 (uO (cL ke.row)))) (cut:=MJ [([1,1],[0])])
def L2:IT (acT n) (lz ke.row) 4:=mB
def PE:=fu fun n=>(L2 n).1
def aa7:∀n:Nat,tL fD 206 (lz ke.row) (anV 246 (uO (cL ke.row))) (PE n):=vD fun n=>uy (L2 n) (gd jU jV) func206 ntmps206 results206
def qc:xP:=(aEU [] (sub [0,1,0,1] ((f152.body).getD .skip)))
def EC:qc.ps.size=2/\∀j:Int,pX qc.js j=none:=⟨jO,fun j=>(by show pX [] j=none;unfold pX aBC;cases (j==0)<;>rfl)⟩
def uA:=(l1 (li .i64) (l1 (kT ke.kr) kM))
def lF:=(tg (avz qc (Cn 3 (l5 1 (alZ (l5 2 (Cn 23 kM)))))) (tg (Bl (VX Syntax.kr 8 kM)) (tg (Bl (VX Syntax.kr 8 kM)) Bi)))
def nM:=(tg (ogL qc (Cn 3 (l5 1 (alZ (l5 2 (Cn 23 kM)))))) (tg (Bl (VX Syntax.kr 8 kM)) (tg (Bl (VX Syntax.kr 8 kM)) Bi)))
attribute [go_sem] uA lF nM
def nF:kL (Tw×(Bool×Unit)) where
 body:=.seq (aSN (sub [0,1,0,1] ((f152.body).getD .skip))) (alX (sub [0,1,0,1] ((f152.body).getD .skip)))
 P:=fD
 cl:=lY []
 cd:=yA []
 p4:=nR []
 cut:=MJ []
 n:=n
 out:=(fun _=>none)
 lR:=WO [] [] [0,1,2] 3 nM
 wD:=lS []
def aa8:(nF n).P=fD/\(nF n).cl=lY []/\(nF n).cd=yA []/\(nF n).p4=nR []/\(nF n).cut=MJ []/\(nF n).n=n/\(nF n).out=(fun _=>none)/\(nF n).lR=WO [] [] [0,1,2] 3 nM/\(nF n).wD=lS []:=⟨rfl,rfl,rfl,rfl,rfl,rfl,rfl,rfl,rfl⟩
def aa9:(nF n).body=.seq (aSN (sub [0,1,0,1] ((f152.body).getD .skip))) (alX (sub [0,1,0,1] ((f152.body).getD .skip))):=rfl
def aba:fV (aSN (sub [0,1,0,1] ((f152.body).getD .skip))) (alX (sub [0,1,0,1] ((f152.body).getD .skip)))=fV qc.assign qc.body:=jO
attribute [go_sem] aa8 aa9 EC
def Kr:{B:Int->ke->Syntax->Syntax->Option (Tw×(Bool×Unit)) //∀(a0:Int)(a1:ke)(o0:Syntax)(o1:Syntax),run (nF n) [.at [0],.rb,.at [1],.rd] {kf:=aSL ((Cn 3 (l5 1 (alZ (l5 2 (Cn 23 kM))))).enc (lF.mo ((),(o0,()),(o1,()),())) ()) [11,12] (uA.enc (lF.mo ((),(o0,()),(o1,()),())) (a0,a1,())),heap:=(lF.enc (lF.mo ((),(o0,()),(o1,()),())) ((),(o0,()),(o1,()),())),low:=(lF.enc (lF.mo ((),(o0,()),(o1,()),())) ((),(o0,()),(o1,()),())).length}=B a0 a1 o0 o1}:=mB
def Nx:=fu fun n=>(Kr n).1
def YU:∀(n:Nat)(a0:Int)(a1:ke)(o0:Syntax)(o1:Syntax)(r:(Tw×(Bool×Unit))),Nx n a0 a1 o0 o1=some r->FnT fD (WC fD) (uA.enc (lF.mo ((),(o0,()),(o1,()),())) (a0,a1,())) (lF.enc (lF.mo ((),(o0,()),(o1,()),())) ((),(o0,()),(o1,()),())) (fun o H'=>o=.ret (sE ((l1 mh kM).enc (nM.mo r.1) r.2))/\H'=nM.enc (nM.mo r.1) r.1)
 |0,_,_,_,_,_,h=>by cases h
 |n+1,a0,a1,o0,o1,r,h=>by
  exact api (M:=nF n) (lk:=qc) (kf:=((Cn 3 (l5 1 (alZ (l5 2 (Cn 23 kM))))).enc (lF.mo ((),(o0,()),(o1,()),())) ())) ⟨jU,jV,oX _,pJ _,q7,q8,rR,rH⟩ aba (jO) ⟨jO,jO⟩ rfl (so (fS (jJ (jO)) (fT (lF.sz _ _).symm)) _ (uA.nb _ _)) (fun x hx=>Ak (fS (jJ (jO)) (fT (lF.sz _ _).symm)) _ (lF.nb _ _ x hx)) (fun e J hs=>aiN (js:=[]) (pos:=[]) (base:=[0,1,2]) (low:=3) (os:=nM) (e:=e) (J:=J) (r:=r) (by rfl) hs) (((Kr n).2 a0 a1 o0 o1).trans h)
@[reducible] def Wa:kL TV:=mU fD f346 n (xg fD [] [] [0,1] 2 lJ kM)
def GM:{B:jQ->Option TV //∀(o0:jQ),run (Wa n) [.at []] (aAj (l5 0 kM) lJ ((),(o0,()),()) () 8)=B o0}:=mB
def Bm:=fu fun n=>(GM n).1
def Uu:∀(n:Nat)(o0:jQ)(r:TV),Bm n o0=some r->SD fD 346 (l5 0 kM) lJ ((),(o0,()),()) () lJ kM r
 |0,_,_,h=>by cases h
 |n+1,o0,r,h=>by
  exact okD (((GM n).2 o0).trans h) (gd jU jV) func346 ntmps346 results346
@[go_sem]def kx:=(tg (Bl (l5 4 kM)) (tg (Bl (VX Syntax.kr 8 kM)) (tg (Bl (VX (cI .i64) 1 kM)) (tg (Bl (VX (cI .i64) 1 kM)) (tg (Bl (l5 5 (l1 (lz Syntax.row) (l1 (li .i64) kM)))) (tg (Bl (VY 6 (VY 7 (VY 8 (l1 (li .i64) kM))))) (tg (atk (kT jS.kr)) (tg (atk (kT jS.kr)) (tg ogM Bi)))))))))
@[reducible] def rn:kL (Tk×Unit):=mU fD f251 n (xg fD [] [] [0,1,2,3,4,5,6,7,8] 9 kx kM)
def PF:{B:Syntax->Int->Int->(List Syntax)->Int->Int->Tb->Tb->Ta->Option (Tk×Unit) //∀(o0:Syntax)(o1:Int)(o2:Int)(o3:(List Syntax))(o4:Int)(o5:Int)(o6:Tb)(o7:Tb)(o8:Ta),run (rn n) [.kH (uc (rn n) [0]) ((uc (rn n) [0]).toList.drop 1),.cut [1],.at [1]] (jT.put {kf:=((l5 0 (l5 1 (l5 2 (l5 3 kM)))).enc (kx.mo ((),(o0,()),(o1,()),(o2,()),(o3,o4,()),(o5,()),o6,o7,o8,())) ())++fR (23-((l5 0 (l5 1 (l5 2 (l5 3 kM)))).enc (kx.mo ((),(o0,()),(o1,()),(o2,()),(o3,o4,()),(o5,()),o6,o7,o8,())) ()).length) qA,heap:=(kx.enc (kx.mo ((),(o0,()),(o1,()),(o2,()),(o3,o4,()),(o5,()),o6,o7,o8,())) ((),(o0,()),(o1,()),(o2,()),(o3,o4,()),(o5,()),o6,o7,o8,())),low:=(kx.enc (kx.mo ((),(o0,()),(o1,()),(o2,()),(o3,o4,()),(o5,()),o6,o7,o8,())) ((),(o0,()),(o1,()),(o2,()),(o3,o4,()),(o5,()),o6,o7,o8,())).length} (some 7) (.sX .nilIface))=B o0 o1 o2 o3 o4 o5 o6 o7 o8}:=mB
def CF:=fu fun n=>(PF n).1
def afo:∀(n:Nat)(o0:Syntax)(o1:Int)(o2:Int)(o3:(List Syntax))(o4:Int)(o5:Int)(o6:Tb)(o7:Tb)(o8:Ta)(r:(Tk×Unit)),CF n o0 o1 o2 o3 o4 o5 o6 o7 o8=some r->FnT fD (axk fD 251) ((l5 0 (l5 1 (l5 2 (l5 3 kM)))).enc (kx.mo ((),(o0,()),(o1,()),(o2,()),(o3,o4,()),(o5,()),o6,o7,o8,())) ()) (kx.enc (kx.mo ((),(o0,()),(o1,()),(o2,()),(o3,o4,()),(o5,()),o6,o7,o8,())) ((),(o0,()),(o1,()),(o2,()),(o3,o4,()),(o5,()),o6,o7,o8,())) (fun o H'=>o=(enR kx kM r).1/\H'=(enR kx kM r).2)
 |0,_,_,_,_,_,_,_,_,_,_,h=>by cases h
 |n+1,o0,o1,o2,o3,o4,o5,o6,o7,o8,r,h=>by
  exact apB (M:=rn n) (p1:=[]) (b1:=[0,1,2,3,4,5,6,7,8]) (args:=((l5 0 (l5 1 (l5 2 (l5 3 kM)))).enc (kx.mo ((),(o0,()),(o1,()),(o2,()),(o3,o4,()),(o5,()),o6,o7,o8,())) ())) ⟨jU,jV,oX _,pJ _,q7,q8,rR,rH⟩ func251 rfl (jO) (so (fS (jJ (jO)) (fT (kx.sz _ _).symm)) _ ((l5 0 (l5 1 (l5 2 (l5 3 kM)))).nb (kx.mo ((),(o0,()),(o1,()),(o2,()),(o3,o4,()),(o5,()),o6,o7,o8,())) ())) (fun x hx=>Ak (fS (jJ (jO)) (fT (kx.sz _ _).symm)) _ (kx.nb _ _ x hx)) ntmps251 results251 (low:=9) (by rfl) rfl (((PF n).2 o0 o1 o2 o3 o4 o5 o6 o7 o8).trans h)
open Go.Proofs
@[go_sem]def uj:=(l5 0 (l5 1 (l5 2 (l5 3 (l1 (aaJ 312 aiP) kM)))))
def PG:{B:Unit->Syntax->Int->Int->(List Syntax)->Int->Int->Tb->Tb->Ta->Option (Tk×Unit) //∀(a0:Unit)(o0:Syntax)(o1:Int)(o2:Int)(o3:(List Syntax))(o4:Int)(o5:Int)(o6:Tb)(o7:Tb)(o8:Ta),run (rn n) [.kH (uc (rn n) [0]) ((uc (rn n) [0]).toList.drop 1),.cut [1],.at [1]] (jT.put {kf:=((l5 0 (l5 1 (l5 2 (l5 3 kM)))).enc (kx.mo ((),(o0,()),(o1,()),(o2,()),(o3,o4,()),(o5,()),o6,o7,o8,())) ())++fR (23-((l5 0 (l5 1 (l5 2 (l5 3 kM)))).enc (kx.mo ((),(o0,()),(o1,()),(o2,()),(o3,o4,()),(o5,()),o6,o7,o8,())) ()).length) qA,heap:=(kx.enc (kx.mo ((),(o0,()),(o1,()),(o2,()),(o3,o4,()),(o5,()),o6,o7,o8,())) ((),(o0,()),(o1,()),(o2,()),(o3,o4,()),(o5,()),o6,o7,o8,())),low:=(kx.enc (kx.mo ((),(o0,()),(o1,()),(o2,()),(o3,o4,()),(o5,()),o6,o7,o8,())) ((),(o0,()),(o1,()),(o2,()),(o3,o4,()),(o5,()),o6,o7,o8,())).length} (some 7) ((aaJ 312 aiP).enc a0))=B a0 o0 o1 o2 o3 o4 o5 o6 o7 o8}:=mB
def CG:=fu fun n=>(PG n).1
def afp:∀(n:Nat)(a0:Unit)(o0:Syntax)(o1:Int)(o2:Int)(o3:(List Syntax))(o4:Int)(o5:Int)(o6:Tb)(o7:Tb)(o8:Ta)(r:(Tk×Unit)),CG n a0 o0 o1 o2 o3 o4 o5 o6 o7 o8=some r->FnT fD (axl fD 251) (uj.enc (kx.mo ((),(o0,()),(o1,()),(o2,()),(o3,o4,()),(o5,()),o6,o7,o8,())) (a0,())) (kx.enc (kx.mo ((),(o0,()),(o1,()),(o2,()),(o3,o4,()),(o5,()),o6,o7,o8,())) ((),(o0,()),(o1,()),(o2,()),(o3,o4,()),(o5,()),o6,o7,o8,())) (fun o H'=>o=(enR kx kM r).1/\H'=(enR kx kM r).2)
 |0,_,_,_,_,_,_,_,_,_,_,_,h=>by cases h
 |n+1,a0,o0,o1,o2,o3,o4,o5,o6,o7,o8,r,h=>by
  exact apA (M:=rn n) (p1:=[]) (b1:=[0,1,2,3,4,5,6,7,8]) (args:=((l5 0 (l5 1 (l5 2 (l5 3 kM)))).enc (kx.mo ((),(o0,()),(o1,()),(o2,()),(o3,o4,()),(o5,()),o6,o7,o8,())) ())) (x:=(aaJ 312 aiP).enc a0) ⟨jU,jV,oX _,pJ _,q7,q8,rR,rH⟩ func251 rfl (jO) (so (fS (jJ (jO)) (fT (kx.sz _ _).symm)) _ (uj.nb (kx.mo ((),(o0,()),(o1,()),(o2,()),(o3,o4,()),(o5,()),o6,o7,o8,())) (a0,()))) (fun x hx=>Ak (fS (jJ (jO)) (fT (kx.sz _ _).symm)) _ (kx.nb _ _ x hx)) ntmps251 results251 (low:=9) (by rfl) rfl (((PG n).2 a0 o0 o1 o2 o3 o4 o5 o6 o7 o8).trans h)
@[go_sem]def ku:=(tg (Bl (l5 1 (l1 (lz Syntax.row) (l1 (li .i64) kM)))) (tg (Bl (VY 2 (VY 3 (VY 4 (l1 (li .i64) kM))))) (tg (atk (kT jS.kr)) (tg (atk (kT jS.kr)) (tg ogM Bi)))))
@[go_sem]abbrev x9(F:(List Syntax)->Int->Int->Tb->Tb->Ta->Option T18)(b:Tc)(a:Unit):=F b.1.1 b.1.2.1 b.2.1.1 b.2.2.1 b.2.2.2.1 b.2.2.2.2.1
@[go_sem]def B2(F:(List Syntax)->Int->Int->Tb->Tb->Ta->Option T18):=Hp [.arg 0 [],.vC 0 0 [],.vC 1 0 [],.vC 1 1 [],.vC 1 2 []] ku (l5 0 kM) ku (l1 lW (l1 mh kM)) (x9 F)
@[reducible] def Ks:kL T18:=mU fD f284 n (xg fD [.tmp 2,.tmp 3] [] [0,1,2,3,4] 5 ku (l1 lW (l1 mh kM))) (tI:=lS []) (tX:=lS [])
@[go_sem]def abb:an0 (Ks n) [0,0,1] [0,1,1]:=⟨jO,jO⟩
def Ku:SX (Ks n) (l5 0 kM) ku 39 x9:=mC
def ED:=fu fun n=>(Ku n).1
def Jq:∀n:Nat,zD fD 284 (l5 0 kM) ku ku (l1 lW (l1 mh kM)) (x9 (ED n)):=WS fun n=>G6 (Ku n) (gd jU jV) func284 ntmps284 results284
@[reducible] def YV:kL Bool:=mU fD f213 n (lR fD [.tmp 4] mh)
def Jr:IO (YV n) (kT lD.kr) lW 14:=mB
def L3:=fu fun n=>(Jr n).1
def Xf:∀n:Nat,th fD 213 (kT lD.kr) lW mh (L3 n):=vM fun n=>ug (Jr n) (gd jU jV) func213 ntmps213 results213
@[reducible] def atw:kL Int:=mU fD f181 n (lR fD [.tmp 2] (li .i64))
def agP:IT (atw n) (li .i64) 18:=mB
def amX:=fu fun n=>(agP n).1
def arI:∀n:Nat,tL fD 181 (li .i64) (li .i64) (amX n):=vD fun n=>uy (agP n) (gd jU jV) func181 ntmps181 results181
@[go_sem]def xF:sN:=⟨[],[],(zA::zT (avK 130 (lz kW))::l8 (zA::zA::zT (lz Syntax.row)::zK::zK::l8 (l8 (zA::zA::[])))),[],none,none⟩
@[reducible] def xS:kL Int:=mU fD f129 n (lR fD [.tmp 4] (li .i64)) (p4:=nR [([0,1,0,1],xF)])
@[go_sem]abbrev xG(v0:List kp)(v1:List Syntax)(v2 v3:Int):jT:=⟨(qA::.func (.func 130) [.kJ false 1 (mp kS v0)] []::mc (qA::qA::.kJ false 8 (mp Syntax.cells v1)::.int .i64 v2::.int .i64 v3::mc (mc (qA::qA::[])))),[],0,[]⟩
abbrev qq:=(List kp)->(List Syntax)->Int->Int->Option Int
abbrev F3(K:List Kt)(Z:qq):Prop:=∀v0 v1 v2 v3,run (xS n) K (xG v0 v1 v2 v3)=Z v0 v1 v2 v3
def sZ:LB (F3 n) [0,1,0,1] [.pF 0,.cut [1,1],.at [1,1]]:=mB
def s3:Nat->qq:=sR ((sZ n).1)
def afq{n:Nat}:s3 n (m+1)=(sZ n).1 (s3 n m):=rfl
@[go_sem]def D6(m:Nat):=ud (sZ n) (s3 n) m
def xT:IO (xS n) (lz Syntax.row) (avK 130 (lz kW)) 21:=mB
def yL:=fu fun n=>(xT n).1
def F4:∀n:Nat,th fD 129 (lz Syntax.row) (avK 130 (lz kW)) (li .i64) (yL n):=vM fun n=>ug (xT n) (gd jU jV) func129 ntmps129 results129
@[reducible] def atx:kL jX:=mU fD f51 n (lR fD [.cell 2 49] (kT jX.kr))
def agQ:IT (atx n) (li .i64) 5:=mB
def amY:=fu fun n=>(agQ n).1
def arJ:∀n:Nat,tL fD 51 (li .i64) (kT jX.kr) (amY n):=vD fun n=>uy (agQ n) (gd jU jV) func51 ntmps51 results51
open Go.Proofs
@[reducible] def aty:kL Syntax:=mU fD f52 n (lR fD [.cell 2 37] (kT Syntax.kr))
def agR:IT (aty n) lW 5:=mB
def abc:=fu fun n=>(agR n).1
def acU:∀n:Nat,tL fD 52 lW (kT Syntax.kr) (abc n):=vD fun n=>uy (agR n) (gd jU jV) func52 ntmps52 results52
@[reducible] def atz:kL Syntax:=mU fD f53 n (lR fD [.cell 4 37] (kT Syntax.kr))
def agS:IO (atz n) (kT Syntax.kr) (kT Syntax.kr) 9:=mB
def abd:=fu fun n=>(agS n).1
def acV:∀n:Nat,th fD 53 (kT Syntax.kr) (kT Syntax.kr) (kT Syntax.kr) (abd n):=vM fun n=>ug (agS n) (gd jU jV) func53 ntmps53 results53
@[reducible] def Fl(X:jX->Option TM)(n:Nat):kL TM:=mU fD f111 n (az7 fD [.cell 2 49,.tmp 3] 1 jX.row (Ui (kT jX.kr) (rsA 0 (fun(b:Tx)=>b.1.length) Fj))) (cl:=lY [(111,zh [] rW (asT (kT jX.kr) Ho) (tY (Uh true jX.row) rW) (Ui (kT jX.kr) (rsA 0 (fun(b:Tx)=>b.1.length) Fj)) (fun(b:Unit) a=>X a.1))]) (tI:=lS []) (tX:=lS [])
@[go_sem]def atA(X:jX->Option TM)(n:Nat):qY (Fl X n) [0,1,1,1]=true:=jO
@[go_sem]def atB(X:jX->Option TM)(n:Nat):vL (Fl X n) [0,1,1,1] 3 7 4 7 5 7 0 8/\vL (Fl X n) [0,1,1,1] 3 8 4 8 5 8 7 8:=⟨⟨jO,jO,jO,jO⟩,jO,jO,jO,jO⟩
def K8(X:jX->Option TM)(n:Nat):{B:jX->Option TM //∀(a0:jX),run (Fl X n) [.at []] (ini (((asT (kT jX.kr) Ho):GC Unit _).enc () (a0,())) 32 (rW.enc ()))=B a0}:=mB
def ya:Nat->jX->Option TM
 |0,_=>none
 |n+1,a0=>(K8 (ya n) n).1 a0
def acW:∀(n:Nat)(a0:jX)(r:TM),ya n a0=some r->FnG fD 111 (((asT (kT jX.kr) Ho):GC Unit _).enc () (a0,())) (rW.enc ()) (fun o H'=>o=.ret (sE ((Ui (kT jX.kr) (rsA 0 (fun(b:Tx)=>b.1.length) Fj)).enc r.1 r.2))/\H'=(tY (Uh true jX.row) rW).enc r.1)
 |0,_,_,h=>by cases h
 |n+1,a0,r,h=>by
  have arK:=acW n;exact vh (M:=Fl (ya n) n) ⟨(jR (oZ (fun b a r h=>(arK) a.1 r h)) jU),jV,oX _,pJ _,q7,q8,rR,rH⟩ func111 rfl rfl (by simp only[go_sem,fI,fJ,fE,fF,fK,fL,fN,fO,fP,fG,fM,fQ]) (rW.nb _ _) ntmps111 results111 (fun J hs=>Q6 hs) (((K8 (ya n) n).2 a0).trans h)
@[reducible] def agT(X:Int->Option kp)(n:Nat):kL kp:=mU fD f177 n (lR fD [.tmp 2] lW) (cd:=yA [(177,oV (nh (li .i64) lW X))]) (tI:=lS []) (tX:=lS [])
@[go_sem]def atC(X:Int->Option kp)(n:Nat):qY (agT X n) [0,1,1]=true:=jO
def Uv(X:Int->Option kp)(n:Nat):IT (agT X n) (li .i64) 20:=mB
def FT:Nat->Int->Option kp
 |0,_=>none
 |n+1,a0=>(Uv (FT n) n).1 a0
def acX:∀n:Nat,tL fD 177 (li .i64) lW (FT n)
 |0=>fun _ _ h=>(by cases h)
 |n+1=>by
  have arL:=acX n;exact uy (Uv (FT n) n) (gd jU (k7 (nk (arL)) jV)) func177 ntmps177 results177
@[reducible] def av6:kL Bool:=mU fD f120 n (lR fD [.tmp 4] mh) (p4:=nR [([0,1,0,1],V0)])
abbrev aDJ(K:List Kt)(Z:IW):Prop:=∀v0 v1 v2,run (av6 n) K (V1 v0 v1 v2)=Z v0 v1 v2
def RP:LB (aDJ n) [0,1,0,1] [.pF 0,.cut [1,1],.at [1,1]]:=mB
def RQ:Nat->IW:=sR ((RP n).1)
def amZ{n:Nat}:RQ n (m+1)=(RP n).1 (RQ n m):=rfl
@[go_sem]def av7(m:Nat):=ud (RP n) (RQ n) m
def an7:IO (av6 n) (lz kW) lW 18:=mB
def Kv:=fu fun n=>(an7 n).1
def L4:∀n:Nat,th fD 120 (lz kW) lW mh (Kv n):=vM fun n=>ug (an7 n) (gd jU jV) func120 ntmps120 results120
@[reducible] def asR:kL Bool:=mU fD f229 n (lR fD [.tmp 4] mh) (p4:=nR [([0,1,0,1],V0)])
abbrev aAu(K:List Kt)(Z:IW):Prop:=∀v0 v1 v2,run (asR n) K (V1 v0 v1 v2)=Z v0 v1 v2
def Ny:LB (aAu n) [0,1,0,1] [.pF 0,.cut [1,1],.at [1,1]]:=mB
def Wb:Nat->IW:=sR ((Ny n).1)
def ajs{n:Nat}:Wb n (m+1)=(Ny n).1 (Wb n m):=rfl
@[go_sem]def atD(m:Nat):=ud (Ny n) (Wb n) m
def ajt:IO (asR n) (lz kW) lW 18:=mB
def alI:=fu fun n=>(ajt n).1
def aAv:∀n:Nat,th fD 229 (lz kW) lW mh (alI n):=vM fun n=>ug (ajt n) (gd jU jV) func229 ntmps229 results229
open Go.Proofs
@[go_sem]def acY:sN:=⟨[],[],(zK::zA::zA::zT (lz kW)::zK::l8 (l8 (l8 (zA::[])))),[],none,none⟩
@[reducible] def agU:kL Bool:=mU fD f228 n (lR fD [.tmp 2] mh) (p4:=nR [([0,1,0,1,1],acY)])
@[go_sem]abbrev acZ(v0:kp)(v1:List kp)(v2:Int):jT:=⟨(.str (sb v0)::qA::qA::.kJ false 1 (mp kS v1)::.int .i64 v2::mc (mc (mc (qA::[])))),[],0,[]⟩
abbrev ac0:=kp->(List kp)->Int->Option Bool
abbrev arM(K:List Kt)(Z:ac0):Prop:=∀v0 v1 v2,run (agU n) K (acZ v0 v1 v2)=Z v0 v1 v2
def I0:LB (arM n) [0,1,0,1,1] [.pF 0,.cut [1,1,1],.at [1,1,1]]:=mB
def I1:Nat->ac0:=sR ((I0 n).1)
def an8{n:Nat}:I1 n (m+1)=(I0 n).1 (I1 n m):=rfl
@[go_sem]def al8(m:Nat):=ud (I0 n) (I1 n) m
def Uw:IT (agU n) lW 18:=mB
def Rb:=fu fun n=>(Uw n).1
def arN:∀n:Nat,tL fD 228 lW mh (Rb n):=vD fun n=>uy (Uw n) (gd jU jV) func228 ntmps228 results228
@[go_sem]def am0:sN:=⟨[],[],(zT (lz kW)::zK::zK::l8 (zK::zK::l8 (l8 (l8 (zA::zA::zA::[]))))),[],none,none⟩
@[reducible] def apT:kL kp:=mU fD f226 n (lR fD [.tmp 6] lW) (p4:=nR [([0,1,0,1,1],am0)])
@[go_sem]abbrev am1(v0:List kp)(v1:Int)(v2 v3:kp)(v4:Int):jT:=⟨(.kJ false 1 (mp kS v0)::.int .i64 v1::.str (sb v2)::mc (.str (sb v3)::.int .i64 v4::mc (mc (mc (qA::qA::qA::[]))))),[],0,[]⟩
abbrev am2:=(List kp)->Int->kp->kp->Int->Option kp
abbrev axI(K:List Kt)(Z:am2):Prop:=∀v0 v1 v2 v3 v4,run (apT n) K (am1 v0 v1 v2 v3 v4)=Z v0 v1 v2 v3 v4
def Kw:LB (axI n) [0,1,0,1,1] [.pF 0,.cut [1,1,1],.at [1,1,1]]:=mB
def Kx:Nat->am2:=sR ((Kw n).1)
def agV{n:Nat}:Kx n (m+1)=(Kw n).1 (Kx n m):=rfl
@[go_sem]def arO(m:Nat):=ud (Kw n) (Kx n) m
def afr:SC3 (apT n) (lz kW) (li .i64) lW 24:=mB
def afs:=fu fun n=>(afr n).1
def axJ:∀n:Nat,apD fD 226 (lz kW) (li .i64) lW lW (afs n):=aF4 fun n=>avJ (afr n) (gd jU jV) func226 ntmps226 results226
@[go_sem]def apU:sN:=⟨[(5,1,true)],[],(zT (lz Rt)::zK::zA::zA::zA::zK::zK::zK::lH (lH (l8 (l8 (zA::[]))))),[oA Rt],none,none⟩
@[reducible] def asS:kL (List Int):=mU fD f266 n (lR fD [.tmp 4] (lz Rt)) (p4:=nR [([0,1,0,1,1,1],apU)])
@[go_sem]abbrev apV(v0:List Int)(v1:Int)(v2:Bool)(v3:Int)(r0:List Int)(c0:Nat):jT:=⟨(.kJ false 1 (mp LP v0)::.int .i64 v1::qA::qA::qA::.lV 0 c0::.bool v2::.int .i64 v3::lM (lM (mc (mc (qA::[]))))),[.lV true 1 (mp LP r0)],0,[]⟩
abbrev apW:=(List Int)->Int->Bool->Int->(List Int)->Option (List Int)
abbrev aAw(K:List Kt)(Z:apW):Prop:=∀v0 v1 v2 v3 r0 c0,c0=r0.length->run (asS n) K (apV v0 v1 v2 v3 r0 c0)=Z v0 v1 v2 v3 r0
def Nz:LB (aAw n) [0,1,0,1,1,1] [.pF 0,.cut [1,1,1,1],.at [1,1,1,1]]:=mB
def NA:Nat->apW:=sR ((Nz n).1)
def aju{n:Nat}:NA n (m+1)=(Nz n).1 (NA n m):=rfl
@[go_sem]def atE(m:Nat):=ud (Nz n) (NA n) m
def ajv:IO (asS n) (lz Rt) (li .i64) 49:=mB
def alJ:=fu fun n=>(ajv n).1
def aAx:∀n:Nat,th fD 266 (lz Rt) (li .i64) (lz Rt) (alJ n):=vM fun n=>ug (ajv n) (gd jU jV) func266 ntmps266 results266
@[go_sem]def Xg:sN:=⟨[],[],(zT (lz kW)::zT (lz kW)::zA::zA::zA::zK::lH (l8 [])),[],none,none⟩
@[reducible] def NB:kL Bool:=mU fD f59 n (lR fD [.tmp 4] mh) (p4:=nR [([0,1,0,1,1],Xg)]) (tI:=lS []) (tX:=lS [])
@[go_sem]def apX:qY (NB n) [0,0,0,1,0,0,1,0,1,1]=true:=jO
@[go_sem]abbrev Xh(v0 v1:List kp)(v2:Int):jT:=⟨(.kJ false 1 (mp kS v0)::.kJ false 1 (mp kS v1)::qA::qA::qA::.int .i64 v2::lM (mc [])),[],0,[]⟩
abbrev Xi:=(List kp)->(List kp)->Int->Option Bool
abbrev an9(K:List Kt)(Z:Xi):Prop:=∀v0 v1 v2,run (NB n) K (Xh v0 v1 v2)=Z v0 v1 v2
def EE:LB (an9 n) [0,1,0,1,1] [.pF 0,.cut [1,1,1],.at [1,1,1]]:=mB
def EF:Nat->Xi:=sR ((EE n).1)
def ajw{n:Nat}:EF n (m+1)=(EE n).1 (EF n m):=rfl
@[go_sem]def ahS(m:Nat):=ud (EE n) (EF n) m
def NC:IO (NB n) (lz kW) (lz kW) 26:=mB
def K9:=fu fun n=>(NC n).1
def aoa:∀n:Nat,th fD 59 (lz kW) (lz kW) mh (K9 n):=vM fun n=>ug (NC n) (gd jU jV) func59 ntmps59 results59
open Go.Proofs
@[go_sem]def wL:sN:=⟨[],[],(zT (lz kW)::zT (tyF 96)::l8 (zA::zK::zK::l8 (l8 (zA::zA::[])))),[],none,none⟩
@[reducible] def xl:kL Int:=mU fD f39 n (lR fD [.tmp 4] (li .i64)) (cl:=lY [(96,nh lW mh (Um n))]) (p4:=nR [([0,1,0,1],wL)])
@[go_sem]abbrev wM(v0:List kp)(v1 v2:Int):jT:=⟨(.kJ false 1 (mp kS v0)::.func (.func 96) [] []::mc (qA::.int .i64 v1::.int .i64 v2::mc (mc (qA::qA::[])))),[],0,[]⟩
abbrev wN:=(List kp)->Int->Int->Option Int
abbrev EG(K:List Kt)(Z:wN):Prop:=∀v0 v1 v2,run (xl n) K (wM v0 v1 v2)=Z v0 v1 v2
def oF:LB (EG n) [0,1,0,1] [.pF 0,.cut [1,1],.at [1,1]]:=mB
def oG:Nat->wN:=sR ((oF n).1)
def vN{n:Nat}:oG n (m+1)=(oF n).1 (oG n m):=rfl
@[go_sem]def Cp(m:Nat):=ud (oF n) (oG n) m
def sH:IO (xl n) (lz kW) (tyF 96) 19:=mB
def tw:=fu fun n=>(sH n).1
def EH:∀n:Nat,th fD 39 (lz kW) (tyF 96) (li .i64) (tw n):=vM fun n=>ug (sH n) (gd (jR (lA (an1 n)) jU) jV) func39 ntmps39 results39
@[reducible] def axK:kL Bool:=mU fD f253 n (lR fD [.tmp 2] mh) (cl:=lY [(101,nh (kT jX.kr) (li .i64) (Eu n)),(102,nh (kT jX.kr) (li .i64) (Bw n))])
def abe:IT (axK n) (kT jX.kr) 11:=mB
def RR:=fu fun n=>(abe n).1
def ajx:∀n:Nat,tL fD 253 (kT jX.kr) mh (RR n):=vD fun n=>uy (abe n) (gd (jR (lA (aaK n)) (jR (lA (WU n)) jU)) jV) func253 ntmps253 results253
@[go_sem]def Xj:sN:=⟨[],[],(zT (lz kE.row)::zT (lz kE.row)::zA::zA::zA::zK::lH (l8 (zA::[]))),[],none,none⟩
@[reducible] def ND:kL Bool:=mU fD f62 n (lR fD [.tmp 4] mh) (cd:=yA [(119,oV (nr (kT kE.kr) (kT kE.kr) mh (aff n)))]) (p4:=nR [([0,1,0,1,1],Xj)]) (tI:=lS []) (tX:=lS [])
@[go_sem]def apY:qY (ND n) [0,0,0,1,0,0,1,0,1,1]=true:=jO
@[go_sem]abbrev Xk(v0 v1:List kE)(v2:Int):jT:=⟨(.kJ false 2 (mp kE.cells v0)::.kJ false 2 (mp kE.cells v1)::qA::qA::qA::.int .i64 v2::lM (mc (qA::[]))),[],0,[]⟩
abbrev Xl:=(List kE)->(List kE)->Int->Option Bool
abbrev aob(K:List Kt)(Z:Xl):Prop:=∀v0 v1 v2,run (ND n) K (Xk v0 v1 v2)=Z v0 v1 v2
def AI:LB (aob n) [0,1,0,1,1] [.pF 0,.cut [1,1,1],.at [1,1,1]]:=mB
def AJ:Nat->Xl:=sR ((AI n).1)
def RS{n:Nat}:AJ n (m+1)=(AI n).1 (AJ n m):=rfl
@[go_sem]def ahT(m:Nat):=ud (AI n) (AJ n) m
def NE:IO (ND n) (lz kE.row) (lz kE.row) 27:=mB
def La:=fu fun n=>(NE n).1
def aoc:∀n:Nat,th fD 62 (lz kE.row) (lz kE.row) mh (La n):=vM fun n=>ug (NE n) (gd jU (k7 (oQ (axz n)) jV)) func62 ntmps62 results62
@[go_sem]def ajy:sN:=⟨[],[],(zA::zK::zA::zK::zK::lH (l8 (l8 (zA::zA::zA::[])))),[oT ky.kr],none,none⟩
@[reducible] def abf:kL Bool:=mU fD f288 n (lR fD [.tmp 2] mh) (cd:=yA [(305,oV (nh (kT jX.kr) (li .i64) (Q8 n)))]) (p4:=nR [([0,1,0,1,1],ajy)]) (tI:=lS []) (tX:=lS [])
@[go_sem]def axL:an0 (abf n) [0,0,1,0,0,1,0,1,1] [0,1]:=⟨jO,jO⟩
@[go_sem]abbrev ajz(v0:Bool)(v1:Int)(o0:ky):jT:=⟨(qA::.ptr 0 0::qA::.bool v0::.int .i64 v1::lM (mc (mc (qA::qA::qA::[])))),[.cells (ky.cells o0)],0,[]⟩
abbrev ajA:=Bool->Int->ky->Option Bool
abbrev av8(K:List Kt)(Z:ajA):Prop:=∀v0 v1 o0,run (abf n) K (ajz v0 v1 o0)=Z v0 v1 o0
def HN:LB (av8 n) [0,1,0,1,1] [.pF 0,.cut [1,1,1],.at [1,1,1]]:=mB
def HO:Nat->ajA:=sR ((HN n).1)
def ac1{n:Nat}:HO n (m+1)=(HN n).1 (HO n m):=rfl
@[go_sem]def apZ(m:Nat):=ud (HN n) (HO n) m
def abg:IT (abf n) (kT ky.kr) 32:=mB
def ZG:=fu fun n=>(abg n).1
def av9:∀n:Nat,tL fD 288 (kT ky.kr) mh (ZG n):=vD fun n=>uy (abg n) (gd jU (k7 (nk (arD n)) jV)) func288 ntmps288 results288
@[go_sem]def am3:sN:=⟨[],[],(zK::zA::zA::zK::zK::lH (lH (l8 (l8 [])))),[],none,none⟩
@[reducible] def ap0:kL Bool:=mU fD f162 n (lR fD [.tmp 2] mh) (cl:=lY [(217,nh (li .u8) mh (IV n))]) (p4:=nR [([0,1,0,1,1,1],am3)])
@[go_sem]abbrev am4(v0:kp)(v1:Bool)(v2:Int):jT:=⟨(.str (sb v0)::qA::qA::.bool v1::.int .i64 v2::lM (lM (mc (mc [])))),[],0,[]⟩
abbrev am5:=kp->Bool->Int->Option Bool
abbrev axM(K:List Kt)(Z:am5):Prop:=∀v0 v1 v2,run (ap0 n) K (am4 v0 v1 v2)=Z v0 v1 v2
def B3:LB (axM n) [0,1,0,1,1,1] [.pF 0,.cut [1,1,1,1],.at [1,1,1,1]]:=mB
def B4:Nat->am5:=sR ((B3 n).1)
def Lb{n:Nat}:B4 n (m+1)=(B3 n).1 (B4 n m):=rfl
@[go_sem]def arP(m:Nat):=ud (B3 n) (B4 n) m
def Wc:IT (ap0 n) lW 45:=mB
def EI:=fu fun n=>(Wc n).1
def Rc:∀n:Nat,tL fD 162 lW mh (EI n):=vD fun n=>uy (Wc n) (gd (jR (lA (atm n)) jU) jV) func162 ntmps162 results162
@[go_sem]def am6:sN:=⟨[],[],(zT (lz ky.row)::zK::zA::zA::zK::zA::zK::lH (l8 (zA::[]))),[oK],none,none⟩
@[reducible] def ap1:kL (Entry×Int):=mU fD f24 n (lR fD [.cell 4 63,.tmp 5] (LQ (kT Entry.kr) (li .i64))) (cl:=lY [(64,nr (lz kW) lW mh (IX n)),(65,nh (kT ky.kr) (lz kW) (Hz n)),(66,Qw (kT ky.kr) (li .i64) lW (kT Entry.kr) (RB n))]) (p4:=nR [([0,1,0,1],am6)])
@[go_sem]abbrev am7(v0:List ky)(v1:kp)(v2:Int):jT:=⟨(.kJ false 23 (mp ky.cells v0)::.str (sb v1)::qA::qA::.ptr 0 0::qA::.int .i64 v2::lM (mc (qA::[]))),[.cells [.int .i64 0,.int .i64 0,.int .i64 0,.int .i64 0,.int .i64 0,.int .i64 0,.str (sb []),.kJ true 0 [],.kJ true 0 []]],0,[]⟩
abbrev am8:=(List ky)->kp->Int->Option (Entry×Int)
abbrev axN(K:List Kt)(Z:am8):Prop:=∀v0 v1 v2,run (ap1 n) K (am7 v0 v1 v2)=Z v0 v1 v2
def Ky:LB (axN n) [0,1,0,1] [.pF 0,.cut [1,1],.at [1,1]]:=mB
def Kz:Nat->am8:=sR ((Ky n).1)
def agW{n:Nat}:Kz n (m+1)=(Ky n).1 (Kz n m):=rfl
@[go_sem]def arQ(m:Nat):=ud (Ky n) (Kz n) m
def aft:IO (ap1 n) (lz ky.row) lW 28:=mB
def QH:=fu fun n=>(aft n).1
def abh:∀n:Nat,th fD 24 (lz ky.row) lW (LQ (kT Entry.kr) (li .i64)) (QH n):=vM fun n=>ug (aft n) (gd (jR (lj (V2 n)) (jR (lA (M6 n)) (jR (IS (aja n)) jU))) jV) func24 ntmps24 results24
open Go.Proofs
@[reducible] def ap3:kL Bool:=mU fD f161 n (lR fD [.tmp 2] mh) (cd:=yA [(216,oV (nh (li .i64) (li .i64) (Qz n)))]) (tI:=lS []) (tX:=lS [])
@[go_sem]def aAy:qY (ap3 n) [0,0,1]=true:=jO
def Wd:IT (ap3 n) (kT jX.kr) 57:=mB
def QI:=fu fun n=>(Wd n).1
def axO:∀n:Nat,tL fD 161 (kT jX.kr) mh (QI n):=vD fun n=>uy (Wd n) (gd jU (k7 (nk (axC n)) jV)) func161 ntmps161 results161
@[go_sem]def ajB:sN:=⟨[],[],(zA::zA::zK::zK::l8 (zK::lH (lH (lH (l8 []))))),[oT kE.kr],none,none⟩
@[go_sem]def ajC:sN:=⟨[],[],(zA::zK::zK::zK::zA::zA::zA::zK::lH (lH (lH (l8 (zA::[]))))),[oT kE.kr],none,none⟩
@[reducible] def abi:kL Int:=mU fD f163 n (lR fD [.tmp 6] (li .i64)) (cl:=lY [(218,nh (kT kE.kr) mh (Zr n))]) (p4:=nR [([0,1,0,1,1,1],ajB),([0,1,0,1,1],ajC)])
@[go_sem]abbrev ajD(v0 v1:Int)(o0:kE):jT:=⟨(qA::qA::.int .i64 v0::.ptr 0 0::mc (.int .i64 v1::lM (lM (lM (mc []))))),[.cells (kE.cells o0)],0,[]⟩
abbrev ajE:=Int->Int->kE->Option Int
abbrev awa(K:List Kt)(Z:ajE):Prop:=∀v0 v1 o0,run (abi n) K (ajD v0 v1 o0)=Z v0 v1 o0
@[go_sem]abbrev ajF(v0 v1 v2:Int)(o0:kE):jT:=⟨(qA::.int .i64 v0::.int .i64 v1::.ptr 0 0::qA::qA::qA::.int .i64 v2::lM (lM (lM (mc (qA::[]))))),[.cells (kE.cells o0)],0,[]⟩
abbrev ajG:=Int->Int->Int->kE->Option Int
abbrev awb(K:List Kt)(Z:ajG):Prop:=∀v0 v1 v2 o0,run (abi n) K (ajF v0 v1 v2 o0)=Z v0 v1 v2 o0
def HP:LB (awa n) [0,1,0,1,1,1] [.pF 2,.cut [1,1,1,1],.at [1,1,1,1]]:=mB
def Db:Nat->ajE:=sR ((HP n).1)
def ac2{n:Nat}:Db n (m+1)=(HP n).1 (Db n m):=rfl
@[go_sem]def ap4(m:Nat):=ud (HP n) (Db n) m
def HQ:LB (awb n) [0,1,0,1,1] [.pF 0,.cut [1,1,1],.at [1,1,1]]:=mB
def HR:Nat->ajG:=sR ((HQ n).1)
def ac3{n:Nat}:HR n (m+1)=(HQ n).1 (HR n m):=rfl
@[go_sem]def ap5(m:Nat):=ud (HQ n) (HR n) m
def abj:SC3 (abi n) (kT kE.kr) (li .i64) (li .i64) 61:=mB
def ZH:=fu fun n=>(abj n).1
def awc:∀n:Nat,apD fD 163 (kT kE.kr) (li .i64) (li .i64) (li .i64) (ZH n):=aF4 fun n=>avJ (abj n) (gd (jR (lA (av0 n)) jU) jV) func163 ntmps163 results163
@[reducible] def awd:kL Int:=mU fD f308 n (lR fD [.tmp 4] (li .i64)) (cl:=lY [(321,nh (kT jX.kr) (LQ (lz jX.row) (kT jX.kr)) (alH n))])
def Xm:IO (awd n) (kT ky.kr) (li .i64) 23:=mB
def We:=fu fun n=>(Xm n).1
def atF:∀n:Nat,th fD 308 (kT ky.kr) (li .i64) (li .i64) (We n):=vM fun n=>ug (Xm n) (gd (jR (lA (aAs n)) jU) jV) func308 ntmps308 results308
@[go_sem]def yM:sN:=⟨[],[],(zT (lz kE.row)::zT (tyF 99)::l8 (zA::zK::zK::l8 (l8 (zA::zA::[])))),[],none,none⟩
@[reducible] def zl:kL Int:=mU fD f160 n (lR fD [.tmp 4] (li .i64)) (cl:=lY [(99,nh (kT kE.kr) mh (ajk n))]) (p4:=nR [([0,1,0,1],yM)])
@[go_sem]abbrev yN(v0:List kE)(v1 v2:Int):jT:=⟨(.kJ false 2 (mp kE.cells v0)::.func (.func 99) [] []::mc (qA::.int .i64 v1::.int .i64 v2::mc (mc (qA::qA::[])))),[],0,[]⟩
abbrev yO:=(List kE)->Int->Int->Option Int
abbrev I2(K:List Kt)(Z:yO):Prop:=∀v0 v1 v2,run (zl n) K (yN v0 v1 v2)=Z v0 v1 v2
def pN:LB (I2 n) [0,1,0,1] [.pF 0,.cut [1,1],.at [1,1]]:=mB
def pO:Nat->yO:=sR ((pN n).1)
def xU{n:Nat}:pO n (m+1)=(pN n).1 (pO n m):=rfl
@[go_sem]def F5(m:Nat):=ud (pN n) (pO n) m
def uF:IO (zl n) (lz kE.row) (tyF 99) 19:=mB
def vE:=fu fun n=>(uF n).1
def I3:∀n:Nat,th fD 160 (lz kE.row) (tyF 99) (li .i64) (vE n):=vM fun n=>ug (uF n) (gd (jR (lA (av3 n)) jU) jV) func160 ntmps160 results160
@[go_sem]def Xn:sN:=⟨[(4,5,false)],[],(zA::zK::zK::zA::zK::lH (l8 (l8 []))),[oT jX.kr,oK,oA jX.row],none,none⟩
@[reducible] def ZI:kL (jX×(List jX)):=mU fD f104 n (lR fD [.cell 2 49,.tmp 3] (LQ (kT jX.kr) (lz jX.row))) (cl:=lY [(167,apr 0 false 5 (zh [0] (tY (Uh false jX.row) rW) (asA 0 (fun(b:Tx)=>b.1.length) Ho) (tY (Uh false jX.row) rW) Fj (fun(b:Tx) a=>(Cy n) b.1)))]) (p4:=nR [([0,0,1,1],Xn)])
@[go_sem]abbrev Xo(o0:jX)(r2:List jX)(c2:Nat):jT:=⟨(qA::.ptr 0 0::.ptr 1 0::qA::.lV 2 c2::lM (mc (mc []))),[.cells (jX.cells o0),.cells [.int .i64 0,.int .i64 0,.str (sb []),.kJ true 0 [],.kJ true 0 []],.lV false 5 (mp jX.cells r2)],0,[]⟩
abbrev Xp:=jX->(List jX)->Option (jX×(List jX))
abbrev aod(K:List Kt)(Z:Xp):Prop:=∀o0 r2 c2,c2=r2.length->run (ZI n) K (Xo o0 r2 c2)=Z o0 r2
def AK:LB (aod n) [0,0,1,1] [.pF 0,.cut [1,1,1],.at [1,1,1]]:=mB
def EJ:Nat->Xp:=sR ((AK n).1)
def RU{n:Nat}:EJ n (m+1)=(AK n).1 (EJ n m):=rfl
@[go_sem]def ahU(m:Nat):=ud (AK n) (EJ n) m
def NF:IT (ZI n) (kT jX.kr) 29:=mB
def Lc:=fu fun n=>(NF n).1
def aoe:∀n:Nat,tL fD 104 (kT jX.kr) (LQ (kT jX.kr) (lz jX.row)) (Lc n):=vD fun n=>uy (NF n) (gd (jR (acu (oZ (fun b a r h=>(afh n) b.1 r h))) jU) jV) func104 ntmps104 results104
@[reducible] def abk:kL Bool:=mU fD f79 n (lR fD [.tmp 4] mh) (cl:=lY [(142,nr (lz kW) lW (li .i64) (Cz n))])
def B5:IO (abk n) (lz kW) lW 9:=mB
def oH:=fu fun n=>(B5 n).1
def pU:∀n:Nat,th fD 79 (lz kW) lW mh (oH n):=vM fun n=>ug (B5 n) (gd (jR (lj (afj n)) jU) jV) func79 ntmps79 results79
end Go.Abs
end
