/- A part of the proof: what the functions compute. -/
import Derived.Test.YtdkeelhebopgkaaGreatDoorDataA
import Derived.Test.YtdkeelhebopgkaaGreatDoorWalkA
import Derived.Test.YtdkeelhebopgkaaGreatDoorExtA
set_option linter.all false
open Go.Proofs.Tryz renaming prog→fB
open Nat renaming reduceLeDiff→fC,reduceEqDiff→fD,reduceAdd→fF,reduceSub→fG,reduceBEq→fH,reduceMul→fI,reduceLT→fK
open Int renaming reduceToNat→fE,reduceBEq→fJ,reduceLE→fL,reduceLT→fM,reduceEq→fN
open Go.Abs.AV renaming any→qA
noncomputable section
open Go.Proofs.Tryz
namespace Go.Abs
variable {m:Nat}
variable (n:Nat)
open Go.Proofs
attribute [go_sem] f187 f103 f79 f124 f121 f161 f199 f220 f223 f109 f39 f201 f171 f228 f45 f185 f155 f154 f72 f57 f123 f122 f88 f168 f107 f104 f203 f226 f230 f111 f143 f114 f149 f60 f119 f141 f179 f138 f35 f47 f167 f262 f281 f177 f288
set_option maxRecDepth 100000
set_option maxHeartbeats 4000000
@[go_sem]def PF:wH:=⟨[],[],(zA::zK::mG (mG (nf (nf (zA::zA::zA::zK::nf (nf (zA::[]))))))),[oK],none,none⟩
@[go_sem]def PH:wH:=⟨[],[],(zK::nf (zA::zK::zA::zK::mG (mG (nf (nf (nf (zA::zA::[]))))))),[oC [zA]],none,none⟩
@[reducible] def I4:kR Int:=nX fB f187 n (nT fB [.tmp 4] (lR .i64)) (cl:=ni [(211,rL mb (lR .i32) (lR .i64) (oF n)),(212,mD (lR .i64) nk (strings_shouldUseASCIISet n))]) (rK:=qF [([0,1,0,1,1,1,1],PF),([0,1,0,0,1,1,0,1,0,1,1,1],PH)])
abbrev PI(v0 iv0:Str)(ip0:Nat):jX:=⟨(qA::.str (sb v0)::mM (mM (nv (nv (qA::qA::qA::.ptr 0 0::nv (nv (qA::[]))))))),[.iter (sb iv0) ip0],0,[]⟩
abbrev PJ:=Str->Str->Nat->Option Int
abbrev aex(K:List Kt)(Z:PJ):Prop:=∀v0 iv0 ip0,run (I4 n) K (PI v0 iv0 ip0)=Z v0 iv0 ip0
abbrev PK(v0:Str)(v1:Int):jX:=⟨(.str (sb v0)::nv (qA::.ptr 0 0::qA::.int .i64 v1::mM (mM (nv (nv (nv (qA::qA::[]))))))),[.cells [qA]],0,[]⟩
abbrev PL:List Kt:=[.qU 0,.cut [1,0,1,1,0,1,0,1,1,1],.at [1,0,1,1,0,1,0,1,1,1],.cut [1,1,1,1],.at [1,1,1,1]]
abbrev aey(K:List Kt)(Z:um):Prop:=∀v0 v1,run (I4 n) K (PK v0 v1)=Z v0 v1
attribute [go_sem] PI PK PL
def BS:LB (aex n) [0,1,0,1,1,1,1] [.qU 2,.cut [1,1,1,1,1],.at [1,1,1,1,1]]:=mB
def yA:Nat->PJ:=xb ((BS n).1)
def aat{n:Nat}:yA n (m+1)=(BS n).1 (yA n m):=rfl
@[go_sem]def YB(m:Nat):=yL (BS n) (yA n) m
def Ht:LB (aey n) [0,1,0,0,1,1,0,1,0,1,1,1] PL:=mB
def Hu:Nat->um:=xb ((Ht n).1)
def arV{n:Nat}:Hu n (m+1)=(Ht n).1 (Hu n m):=rfl
@[go_sem]def YC(m:Nat):=yL (Ht n) (Hu n) m
def I5:{B:Str->Str->Option Int //∀(a0:Str)(a1:Str),run (I4 n) [.at []] (UJ [mb.enc a0,mb.enc a1] 55)=B a0 a1}:=mB
def strings_IndexAny:=fu fun n=>(I5 n).1
def aez:∀(n:Nat)(a0:Str)(a1:Str)(r:Int),strings_IndexAny n a0 a1=some r->Ku fB 187 [mb.enc a0,mb.enc a1] (fun v=>v=(lR .i64).enc r)
 |0,_,_,_,h=>by cases h
 |n+1,a0,a1,r,h=>by
  exact okC (((I5 n).2 a0 a1).trans h) (gd (jW (pg (Oy n)) (jW (lU (aMo n)) j9)) ke) func187 ⟨mb.nb 0 _,mb.nb 0 _,trivial⟩ ntmps187 results187
@[go_sem]abbrev pU(F:Int->jU->Option Tw)(b:T6)(a:(Int×Unit)):=F a.1 b.1.1
@[go_sem]def lV(F:Int->jU->Option Tw):=wI true [.arg 0 []] jS (my 0 (mH (lR .i64) k7)) jS k7 jS j8 (pU F)
@[reducible] def YD:kR Tw:=nX fB f103 n (qI fB [] [] [0] 1 jS k7) (cl:=ni [(58,qP (nG (mD (rI jU.ku) (lR .i64) (qf n))))]) (pT:=qJ [] [0] 1 jS j8)
def DD:SX (YD n) (my 0 (mH (lR .i64) k7)) jS 9 pU:=Al
def nq:=fu fun n=>(DD n).1
def uZ:∀n:Nat,sV fB 103 (my 0 (mH (lR .i64) k7)) jS true jS k7 jS j8 (pU (nq n)):=Wa fun n=>Dk (DD n) (gd (jW (lD (lu (uc n))) j9) ke) func103 ntmps103 results103
@[reducible] def YE:kR Bool:=nX fB f79 n (nT fB [.tmp 4] nk) (cl:=ni [(74,X1 (rI jU.ku) (lR .i64) mb nk (uU n))])
def DE:SC2 (YE n) (rI jU.ku) mb 8:=mB
def nP:=fu fun n=>(DE n).1
def pz:∀n:Nat,Gx fB 79 (rI jU.ku) mb nk (nP n):=IT fun n=>IS (DE n) (gd (jW (adN (yz n)) j9) ke) func79 ntmps79 results79
@[go_sem]def ZT:wH:=⟨[(5,9,true)],[],(zA::zA::zA::zK::zA::zK::zA::zA::zT (mZ mq)::zK::zK::nf (nf (nf []))),[oT Syntax.ku,oA kg.row],none,none⟩
@[reducible] def acs:kR TE:=nX fB f124 n (nT fB [.tmp 4] (mZ kg.row)) (cl:=ni [(160,mD (lJ Syntax.ku) (lJ Syntax.ku) (vF n))]) (rK:=qF [([0,1,0,1,1],ZT)])
@[go_sem]abbrev ZU(v0:List Str)(v1 v2:Int)(o0:Syntax)(r1:List kg)(c1:Nat):jX:=⟨(qA::qA::qA::.ptr 0 0::qA::.mE 1 c1::qA::qA::.lS false 1 (mp nh v0)::.int .i64 v1::.int .i64 v2::nv (nv (nv []))),[.cells (Syntax.cells o0),.mE true 9 (mp kg.cells r1)],0,[]⟩
abbrev ZV:=(List Str)->Int->Int->Syntax->TE->Option TE
abbrev akU(K:List Kt)(Z:ZV):Prop:=∀v0 v1 v2 o0 r1 c1,c1=r1.length->run (acs n) K (ZU v0 v1 v2 o0 r1 c1)=Z v0 v1 v2 o0 r1
def Ee:LB (akU n) [0,1,0,1,1] [.qU 0,.cut [1,1,1],.at [1,1,1]]:=mB
def Ef:Nat->ZV:=xb ((Ee n).1)
def Uh{n:Nat}:Ef n (m+1)=(Ee n).1 (Ef n m):=rfl
@[go_sem]def agw(m:Nat):=yL (Ee n) (Ef n) m
def Ra:SC2 (acs n) (mZ mq) (lJ Syntax.ku) 23:=mB
def GF:=fu fun n=>(Ra n).1
def ZW:∀n:Nat,Gx fB 124 (mZ mq) (lJ Syntax.ku) (mZ kg.row) (GF n):=IT fun n=>IS (Ra n) (gd (jW (lU (Wy n)) j9) ke) func124 ntmps124 results124
@[reducible] def aft:kR Syntax:=nX fB f121 n (nT fB [.cell 6 29] (lJ Syntax.ku)) (cl:=ni [(158,mD (mZ kg.row) (atg 190 (rI (cL kg.row))) (EB n)),(190,GP (CB n))]) (js:=aHh [([0,1,0,1],[])])
@[go_sem]def akV:lkM (aft n) [0,1,0,1]=pZ:=rfl
attribute [go_sem] Do
def Vj:SC3 (aft n) (lJ Syntax.ku) (mZ kg.row) (lJ Syntax.ku) 29:=mB
def Da:=fu fun n=>(Vj n).1
def Rb:∀n:Nat,aqU fB 121 (lJ Syntax.ku) (mZ kg.row) (lJ Syntax.ku) (lJ Syntax.ku) (Da n):=aCc fun n=>azF (Vj n) (gd (jW (lU (UX n)) (jW (tY (Q1 n)) j9)) ke) func121 ntmps121 results121
@[reducible] def H7:kR Bool:=nX fB f161 n (nT fB [.tmp 2] nk) (cl:=ni [(56,mD (rI jU.ku) (lJ kH.ku) (mg n))]) (cd:=N5 [(195,nG (rL (mZ mq) mb nk (nZ n)))]) (uO:=mc []) (uR:=mc [])
@[go_sem]def Vk:sP (H7 n) [0,1,1]=true:=jR
def Bq:R2 (H7 n) (rI jU.ku) 25:=mB
def vS:=fu fun n=>(Bq n).1
def GU:∀n:Nat,zm fB 161 (rI jU.ku) nk (vS n):=AH fun n=>Ap (Bq n) (gd (jW (lU (mm n)) j9) (oJ (pm (GR n)) ke)) func161 ntmps161 results161
open Go.Proofs
@[go_sem]def qn:=(mH (lJ Syntax.ku) (mH (lR .i64) k7))
@[go_sem]abbrev qM(F:Int->(List Syntax)->Int->Int->Tf->Tf->Ta->Option Tp)(b:Tb)(a:(Int×Unit)):=F a.1 b.1.1 b.1.2.1 b.2.1.1 b.2.2.1 b.2.2.2.1 b.2.2.2.2.1
@[go_sem]def yU(F:Int->(List Syntax)->Int->Int->Tf->Tf->Ta->Option Tp):=wI true [.arg 0 [],.Ci 0 0 [],.Ci 1 0 [],.Ci 1 1 [],.Ci 1 2 []] kw (my 0 (mH (lR .i64) k7)) kw qn kw (mH (UI 202 abC) k7) (qM F)
@[go_sem]def om:=(my 0 (mH (lJ jV.ku) (mH (lR .i64) (mH (awL Syntax.row) (mH (lR .i64) k7)))))
@[go_sem]abbrev tF(F:jV->Int->(List Syntax)->Int->(List Syntax)->Int->Int->Tf->Tf->Ta->Option Tt)(b:Tb)(a:T12):=F a.1 a.2.1 a.2.2.1 a.2.2.2.1 b.1.1 b.1.2.1 b.2.1.1 b.2.2.1 b.2.2.2.1 b.2.2.2.2.1
@[go_sem]def DF(F:jV->Int->(List Syntax)->Int->(List Syntax)->Int->Int->Tf->Tf->Ta->Option Tt):=wI true [.arg 0 [],.Ci 0 0 [],.Ci 1 0 [],.Ci 1 1 [],.Ci 1 2 []] kw om kw (mH (lJ Syntax.ku) k7) kw (mH (UI 202 abC) k7) (tF F)
structure kE where
 nQ:Int->(List Syntax)->Int->Int->Tf->Tf->Ta->Option Tp
 mr:Int->(List Syntax)->Int->Int->Tf->Tf->Ta->Option Tp
 oU:jV->Int->(List Syntax)->Int->(List Syntax)->Int->Int->Tf->Tf->Ta->Option Tt
open Go.Proofs
@[go_sem]def Jy:wH:=⟨[],[],(zK::zK::zA::zA::zK::zA::zK::zK::mG (mG (mG (nf (zA::zA::zA::[]))))),[oC [zK,zT (mZ Syntax.row),zK],oC [zK,zK,zK,zK],oM (lJ jV.ku),oM (lJ jV.ku),oK,oK,oT Syntax.ku],none,none⟩
@[reducible] def K8(X:kE)(n:Nat):kR Tp:=nX fB f199 n (qI fB [.cell 4 29,.tmp 5] [] [0,1,2,3,4] 5 kw qn) (cl:=ni [(221,Bn (vO n)),(222,rL (lJ jV.ku) (lR .i64) (lR .i64) (HU n))]) (rK:=qF [([0,1,1],Jy)]) (pT:=qJ [] [0,1,2,3,4] 5 kw (mH (UI 202 abC) k7)) (cp:=Aj [(220,yU X.mr),(223,DF X.oU)]) (wF:=mc [220,223])
@[go_sem]abbrev Jz(v0 v1:Int)(v2:List Syntax)(v3 v4:Int)(r2 r3:List (Str×jV))(r4:List (Str×Bool))(o6:Syntax):jX:=⟨(.ptr 0 0::.int .i64 v0::qA::qA::.ptr 5 0::qA::.ptr 6 0::.int .i64 v1::mM (mM (mM (nv (qA::qA::qA::[]))))),[.cells [.ptr 1 0,.lS false 8 (mp Syntax.cells v2),.int .i64 v3],.cells [.map 2,.map 3,.map 4,.int .i64 v4],.map (mp (Pr (lJ jV.ku)) r2),.map (mp (Pr (lJ jV.ku)) r3),.map (mp Gr r4),.cells [.int .i64 0,.str (sb []),.int .i64 0,.lS true 0 [],.lS true 0 [],.lS true 0 [],.int .i64 0,.int .i64 0],.cells (Syntax.cells o6)],5,[]⟩
abbrev JA:=Int->Int->(List Syntax)->Int->Int->Tf->Tf->Ta->Syntax->Option Tp
abbrev WU(X:kE)(n:Nat)(K:List Kt)(Z:JA):Prop:=∀v0 v1 v2 v3 v4 r2 r3 r4 o6,run (K8 X n) K (Jz v0 v1 v2 v3 v4 r2 r3 r4 o6)=Z v0 v1 v2 v3 v4 r2 r3 r4 o6
def s4(X:kE)(n:Nat):LB (WU X n) [0,1,1] [.qU 0]:=yp
def qo(X:kE)(n:Nat):Nat->JA:=xb ((s4 X n).1)
def At(X:kE){n:Nat}:qo X n (m+1)=(s4 X n).1 (qo X n m):=rfl
@[go_sem]def Rc(X:kE)(n:Nat)(m:Nat):=yL (s4 X n) (qo X n) m
def vT(X:kE)(n:Nat):SX (K8 X n) (my 0 (mH (lR .i64) k7)) kw 63 qM:=Al
open Go.Proofs
@[reducible] def mj(X:kE)(n:Nat):kR Tp:=nX fB f220 n (qI fB [.cell 4 29,.tmp 5] [] [0,1,2,3,4] 5 kw qn) (cl:=ni [(245,mD (lJ jV.ku) nk (Cr n))]) (pT:=qJ [] [0,1,2,3,4] 5 kw (mH (UI 202 abC) k7)) (co:=Mc [(223,E0 [.arg 0 [],.Ci 0 0 [],.Ci 1 0 [],.Ci 1 1 [],.Ci 1 2 []] kw om kw (mH (lJ Syntax.ku) k7) kw (mH (UI 202 abC) k7) (tF X.oU))]) (cp:=Aj [(223,DF X.oU)]) (wF:=mc [223]) (uO:=mc [223]) (uR:=mc [])
def Si(X:kE)(n:Nat):aCb (mj X n) [0,0,1] [0,0,1,1,1,0,0,1,1,1,1,1] [0,1,1] [0,1,1,1,1]:=⟨jR,jR,jR,jR⟩
def Sj(X:kE)(n:Nat):Bh (mj X n) [0,0,1,1,1,0,0,1,1,1,1,1] 1 4 3 4 1 7 3 7/\N3 (mj X n) [0,0,1,1,1,0,0,1,1,1,1,1] 4 7=true/\Bh (mj X n) [0,1,1] 3 11 7 11 8 11 9 11/\N3 (mj X n) [0,1,1] 10 11=true/\Bh (mj X n) [0,1,1,1,1] 3 14 6 14 8 14 9 14/\N3 (mj X n) [0,1,1,1,1] 13 14=true:=⟨⟨jR,jR,jR,jR⟩,jR,⟨jR,jR,jR,jR⟩,jR,⟨jR,jR,jR,jR⟩,jR⟩
def Sk(X:kE)(n:Nat):Mb (mj X n) [0,0,1,1,1,0,0,1,1,1,1,1] 4 5=false/\Mb (mj X n) [0,0,1,1,1,0,0,1,1,1,1,1] 4 6=false/\Mb (mj X n) [0,0,1,1,1,0,0,1,1,1,1,1] 4 7=true/\Mb (mj X n) [0,0,1,1,1,0,0,1,1,1,1,1] 4 8=true/\UD (mj X n) [0,0,1,1,1,0,0,1,1,1,1,1] 4=false:=⟨jR,jR,jR,jR,jR⟩
attribute [go_sem] Si Sj Sk
def pP(X:kE)(n:Nat):SX (mj X n) (my 0 (mH (lR .i64) k7)) kw 83 qM:=Al
open Go.Proofs
def JB:wH:=⟨[],[],(nf (zK::nf (zA::zK::zK::nf (zA::zA::zK::vD (nf (zK::zK::zK::nf (nf (zA::zA::zA::[])))))))),[oC [zK,zT (mZ Syntax.row),zK],oC [zK,zK,zK,zK],oM (lJ jV.ku),oM (lJ jV.ku),oK,oD,oK,oD,oA Syntax.row,oC [zK,zK,zK,zK,zK,zT (mZ Syntax.row),zK,zK]],none,none⟩
def JC:wH:=⟨[],[],(nf (zK::nf (zA::zK::zK::nf (zA::zA::zK::vD (nf (zL Syntax.row::zK::zK::nf (nf (zA::zA::zA::[])))))))),[oC [zK,zT (mZ Syntax.row),zK],oC [zK,zK,zK,zK],oM (lJ jV.ku),oM (lJ jV.ku),oK,oD,oK,oC [zK,zK,zK,zK,zK,zT (mZ Syntax.row),zK,zK]],(some 87),none⟩
def JD:wH:=⟨[],[],(zK::zA::zK::zK::zK::zA::zK::zA::zA::zA::zK::zK::nf (nf (nf (zT (mZ mq)::zK::zK::vD (nf (nf (zA::zA::[]))))))),[oC [zK,zT (mZ Syntax.row),zK],oC [zK,zK,zK,zK],oM (lJ jV.ku),oM (lJ jV.ku),oK,oT jV.ku,oK,oD,oA Syntax.row],none,none⟩
def JE:wH:=⟨[],[],(zK::zA::zK::zL Syntax.row::zK::zA::zK::zA::zA::zA::zK::zK::nf (nf (nf (zT (mZ mq)::zK::zK::vD (nf (nf (zA::zA::[]))))))),[oC [zK,zT (mZ Syntax.row),zK],oC [zK,zK,zK,zK],oM (lJ jV.ku),oM (lJ jV.ku),oK,oT jV.ku,oK],(some 3),none⟩
@[reducible] def tG(X:kE)(n:Nat):kR Tt:=nX fB f223 n (qI fB [.cell 10 29] [] [0,1,2,3,4] 5 kw (mH (lJ Syntax.ku) k7)) (cl:=ni [(221,Bn (vO n)),(222,rL (lJ jV.ku) (lR .i64) (lR .i64) (HU n))]) (rK:=qF [([0,1,0,1,1],JE),([0,1,0,1,1],JD),([0,1,0,1,1,1,1],JC),([0,1,0,1,1,1,1],JB)]) (pT:=qJ [] [0,1,2,3,4] 5 kw (mH (UI 202 abC) k7)) (cp:=Aj [(199,yU X.nQ)]) (wF:=mc [199]) (uO:=mc []) (uR:=mc [])
def YF(X:kE)(n:Nat):sP (tG X n) [0,1,1,1,0,0,1,1,0,0,1,0,1,1]=true:=jR
attribute [go_sem] YF JB JC JD JE
abbrev JF(v0 v1 v2 v3:Int)(v4:List Syntax)(v5 v6:Int)(r2 r3:List (Str×jV))(r4:List (Str×Bool))(r8:List Syntax)(v11:Int)(v12:Str)(v13:List Syntax)(v14 v15:Int)(c8:Nat):jX:=⟨(nv (.int .i64 v0::nv (qA::.ptr 6 0::.int .i64 v1::nv (qA::qA::.ptr 9 0::vC (nv (.mE 8 c8::.int .i64 v2::.int .i64 v3::nv (nv (qA::qA::qA::[])))))))),[.cells [.ptr 1 0,.lS false 8 (mp Syntax.cells v4),.int .i64 v5],.cells [.map 2,.map 3,.map 4,.int .i64 v6],.map (mp (Pr (lJ jV.ku)) r2),.map (mp (Pr (lJ jV.ku)) r3),.map (mp Gr r4),.sU,.cells [.int .i64 0,.str (sb []),.int .i64 0,.lS true 0 [],.lS true 0 [],.lS true 0 [],.int .i64 0,.int .i64 0],.sU,.mE true 8 (mp Syntax.cells r8),.cells [.int .i64 v11,.str (sb v12),.int .i64 0,.lS true 0 [],.lS true 0 [],.lS false 8 (mp Syntax.cells v13),.int .i64 v14,.int .i64 v15]],5,[]⟩
abbrev JG:=Int->Int->Int->Int->(List Syntax)->Int->Int->Tf->Tf->Ta->(List Syntax)->Int->Str->(List Syntax)->Int->Int->Option Tt
abbrev WV(X:kE)(n:Nat)(K:List Kt)(Z:JG):Prop:=∀v0 v1 v2 v3 v4 v5 v6 r2 r3 r4 r8 v11 v12 v13 v14 v15 c8,c8=r8.length->run (tG X n) K (JF v0 v1 v2 v3 v4 v5 v6 r2 r3 r4 r8 v11 v12 v13 v14 v15 c8)=Z v0 v1 v2 v3 v4 v5 v6 r2 r3 r4 r8 v11 v12 v13 v14 v15
abbrev JH(v0 v1:Int)(v2:List Syntax)(v3 v4:Int)(v5:List Syntax)(v6 v7:Int)(r2 r3:List (Str×jV))(r4:List (Str×Bool))(v11:Int)(v12:Str)(v13:List Syntax)(v14 v15:Int):jX:=⟨(nv (.int .i64 v0::nv (qA::.ptr 6 0::.int .i64 v1::nv (qA::qA::.ptr 7 0::vC (nv (.lS true 8 (mp Syntax.cells v2)::.int .i64 v3::.int .i64 v4::nv (nv (qA::qA::qA::[])))))))),[.cells [.ptr 1 0,.lS false 8 (mp Syntax.cells v5),.int .i64 v6],.cells [.map 2,.map 3,.map 4,.int .i64 v7],.map (mp (Pr (lJ jV.ku)) r2),.map (mp (Pr (lJ jV.ku)) r3),.map (mp Gr r4),.sU,.cells [.int .i64 0,.str (sb []),.int .i64 0,.lS true 0 [],.lS true 0 [],.lS true 0 [],.int .i64 0,.int .i64 0],.cells [.int .i64 v11,.str (sb v12),.int .i64 0,.lS true 0 [],.lS true 0 [],.lS false 8 (mp Syntax.cells v13),.int .i64 v14,.int .i64 v15]],5,[]⟩
abbrev JI:=Int->Int->(List Syntax)->Int->Int->(List Syntax)->Int->Int->Tf->Tf->Ta->Int->Str->(List Syntax)->Int->Int->Option Tt
abbrev WW(X:kE)(n:Nat)(K:List Kt)(Z:JI):Prop:=∀v0 v1 v2 v3 v4 v5 v6 v7 r2 r3 r4 v11 v12 v13 v14 v15,run (tG X n) K (JH v0 v1 v2 v3 v4 v5 v6 v7 r2 r3 r4 v11 v12 v13 v14 v15)=Z v0 v1 v2 v3 v4 v5 v6 v7 r2 r3 r4 v11 v12 v13 v14 v15
abbrev JJ(v0 v1 v2:Int)(v3:List Str)(v4 v5:Int)(v6:List Syntax)(v7 v8:Int)(r2 r3:List (Str×jV))(r4:List (Str×Bool))(o5:jV)(r8:List Syntax)(c8:Nat):jX:=⟨(.ptr 0 0::qA::.int .i64 v0::.mE 8 c8::.int .i64 v1::qA::.ptr 5 0::qA::qA::qA::.ptr 6 0::.int .i64 v2::nv (nv (nv (.lS false 1 (mp nh v3)::.int .i64 v4::.int .i64 v5::vC (nv (nv (qA::qA::[]))))))),[.cells [.ptr 1 0,.lS false 8 (mp Syntax.cells v6),.int .i64 v7],.cells [.map 2,.map 3,.map 4,.int .i64 v8],.map (mp (Pr (lJ jV.ku)) r2),.map (mp (Pr (lJ jV.ku)) r3),.map (mp Gr r4),.cells (jV.cells o5),.cells [.int .i64 0,.str (sb []),.int .i64 0,.lS true 0 [],.lS true 0 [],.lS true 0 [],.int .i64 0,.int .i64 0],.sU,.mE true 8 (mp Syntax.cells r8)],5,[]⟩
abbrev JK:=Int->Int->Int->(List Str)->Int->Int->(List Syntax)->Int->Int->Tf->Tf->Ta->jV->(List Syntax)->Option Tt
abbrev WX(X:kE)(n:Nat)(K:List Kt)(Z:JK):Prop:=∀v0 v1 v2 v3 v4 v5 v6 v7 v8 r2 r3 r4 o5 r8 c8,c8=r8.length->run (tG X n) K (JJ v0 v1 v2 v3 v4 v5 v6 v7 v8 r2 r3 r4 o5 r8 c8)=Z v0 v1 v2 v3 v4 v5 v6 v7 v8 r2 r3 r4 o5 r8
abbrev JL(v0:Int)(v1:List Syntax)(v2 v3:Int)(v4:List Str)(v5 v6:Int)(v7:List Syntax)(v8 v9:Int)(r2 r3:List (Str×jV))(r4:List (Str×Bool))(o5:jV):jX:=⟨(.ptr 0 0::qA::.int .i64 v0::.lS true 8 (mp Syntax.cells v1)::.int .i64 v2::qA::.ptr 5 0::qA::qA::qA::.ptr 6 0::.int .i64 v3::nv (nv (nv (.lS false 1 (mp nh v4)::.int .i64 v5::.int .i64 v6::vC (nv (nv (qA::qA::[]))))))),[.cells [.ptr 1 0,.lS false 8 (mp Syntax.cells v7),.int .i64 v8],.cells [.map 2,.map 3,.map 4,.int .i64 v9],.map (mp (Pr (lJ jV.ku)) r2),.map (mp (Pr (lJ jV.ku)) r3),.map (mp Gr r4),.cells (jV.cells o5),.cells [.int .i64 0,.str (sb []),.int .i64 0,.lS true 0 [],.lS true 0 [],.lS true 0 [],.int .i64 0,.int .i64 0]],5,[]⟩
abbrev xW:=Int->(List Syntax)->Int->Int->(List Str)->Int->Int->(List Syntax)->Int->Int->Tf->Tf->Ta->jV->Option Tt
abbrev xX(X:kE)(n:Nat)(K:List Kt)(Z:xW):Prop:=∀v0 v1 v2 v3 v4 v5 v6 v7 v8 v9 r2 r3 r4 o5,run (tG X n) K (JL v0 v1 v2 v3 v4 v5 v6 v7 v8 v9 r2 r3 r4 o5)=Z v0 v1 v2 v3 v4 v5 v6 v7 v8 v9 r2 r3 r4 o5
attribute [go_sem] JF JH JJ JL
def u0(X:kE)(n:Nat):LB (WV X n) [0,1,0,1,1,1,1] [.qU 2,.cut [1,1,1,1,1],.at [1,1,1,1,1]]:=yp
def u1(X:kE)(n:Nat):Nat->JG:=xb ((u0 X n).1)
def GV(X:kE){n:Nat}:u1 X n (m+1)=(u0 X n).1 (u1 X n m):=rfl
@[go_sem]def Rd(X:kE)(n:Nat)(m:Nat):=yL (u0 X n) (u1 X n) m
def u3(X:kE)(n:Nat):LB (WW X n) [0,1,0,1,1,1,1] [.qU 2,.cut [1,1,1,1,1],.at [1,1,1,1,1]]:=yp
def u4(X:kE)(n:Nat):Nat->JI:=xb ((u3 X n).1)
def GW(X:kE){n:Nat}:u4 X n (m+1)=(u3 X n).1 (u4 X n m):=rfl
@[go_sem]def Re(X:kE)(n:Nat)(m:Nat):=yL (u3 X n) (u4 X n) m
def qq(X:kE)(n:Nat):LB (WX X n) [0,1,0,1,1] [.qU 0,.cut [1,1,1],.at [1,1,1]]:=yp
def xY(X:kE)(n:Nat):Nat->JK:=xb ((qq X n).1)
def tS(X:kE){n:Nat}:xY X n (m+1)=(qq X n).1 (xY X n m):=rfl
@[go_sem]def Rf(X:kE)(n:Nat)(m:Nat):=yL (qq X n) (xY X n) m
def qt(X:kE)(n:Nat):{B:Nat->xW->xW //∀m X0,xX X n (.lq m [0,1,0,1,1]::[.qU 0,.cut [1,1,1],.at [1,1,1]]) X0->xX X n (.at [0,0,1,0,1,1]::.lp m [0,1,0,1,1]::[.qU 0,.cut [1,1,1],.at [1,1,1]]) (B m X0)}:=yp
def u5(X:kE)(n:Nat):Nat->xW:=lpM fun m=>(qt X n).1 m
def tT(X:kE){n:Nat}:u5 X n (m+1)=(qt X n).1 m (u5 X n m):=rfl
@[go_sem]def Rh(X:kE)(n:Nat)(m:Nat):xX X n (.lq m [0,1,0,1,1]::[.qU 0,.cut [1,1,1],.at [1,1,1]]) (u5 X n m):=
 awY (G:=fun m Z=>xX X n (.lq m [0,1,0,1,1]::[.qU 0,.cut [1,1,1],.at [1,1,1]]) Z) (fun _ _ _ _ _ _ _ _ _ _ _ _ _ _=>Jm) (fun m _ ih v0 v1 v2 v3 v4 v5 v6 v7 v8 v9 r2 r3 r4 o5=>C7.trans ((qt X n).2 _ _ ih v0 v1 v2 v3 v4 v5 v6 v7 v8 v9 r2 r3 r4 o5)) m
def yV(X:kE)(n:Nat):SX (tG X n) om kw 101 tF:=Al
open Go.Proofs
def kJ:Nat->kE
 |0=>⟨Fu.z,Fu.z,Fu.z⟩
 |n+1=>⟨(vT (kJ n) n).1,(pP (kJ n) n).1,(yV (kJ n) n).1⟩
def nQ:Int->(List Syntax)->Int->Int->Tf->Tf->Ta->Option Tp:=(kJ n).nQ
def K9{n:Nat}:nQ (n+1)=(vT (kJ n) n).1:=rfl
def mr:Int->(List Syntax)->Int->Int->Tf->Tf->Ta->Option Tp:=(kJ n).mr
def tU{n:Nat}:mr (n+1)=(pP (kJ n) n).1:=rfl
def oU:jV->Int->(List Syntax)->Int->(List Syntax)->Int->Int->Tf->Tf->Ta->Option Tt:=(kJ n).oU
def YG{n:Nat}:oU (n+1)=(yV (kJ n) n).1:=rfl
def kV{n:Nat}:(kJ n).nQ=nQ n/\(kJ n).mr=mr n/\(kJ n).oU=oU n:=⟨rfl,rfl,rfl⟩
def xu:∀n:Nat,sV fB 199 (my 0 (mH (lR .i64) k7)) kw true kw qn kw (mH (UI 202 abC) k7) (qM (kJ n).nQ)/\sV fB 220 (my 0 (mH (lR .i64) k7)) kw true kw qn kw (mH (UI 202 abC) k7) (qM (kJ n).mr)/\sV fB 223 om kw true kw (mH (lJ Syntax.ku) k7) kw (mH (UI 202 abC) k7) (tF (kJ n).oU)
 |0=>⟨fun _ _ _ h=>(by cases h),fun _ _ _ h=>(by cases h),fun _ _ _ h=>(by cases h)⟩
 |n+1=>by
  obtain⟨WY,Ri,CP⟩:=xu n
  exact⟨Dk (vT (kJ n) n) (gd (jW (tY (GO n)) (jW (pg (WC n)) j9)) ke (p:=(kz (kS (Ri)) (kz (kS (CP)) lT)))) func199 ntmps199 results199,
   Dk (pP (kJ n) n) (gd (jW (lU (KQ n)) j9) ke (p:=(kz (kS (CP)) lT)) (c:=(mw (zB (CP)) qL))) func220 ntmps220 results220,
   Dk (yV (kJ n) n) (gd (jW (tY (GO n)) (jW (pg (WC n)) j9)) ke (p:=(kz (kS (WY)) lT))) func223 ntmps223 results223⟩
def WZ:sV fB 199 (my 0 (mH (lR .i64) k7)) kw true kw qn kw (mH (UI 202 abC) k7) (qM (nQ n)):=(xu n).1
def am5:sV fB 220 (my 0 (mH (lR .i64) k7)) kw true kw qn kw (mH (UI 202 abC) k7) (qM (mr n)):=(xu n).2.1
def apr:sV fB 223 om kw true kw (mH (lJ Syntax.ku) k7) kw (mH (UI 202 abC) k7) (tF (oU n)):=(xu n).2.2
open Go.Proofs
@[reducible] def OC:kR (T8×Unit):=nX fB f109 n (Fi fB [] (lm (lA jT.ku) li) pd 1) (cl:=ni [(61,qP (nG (mD (rI jT.ku) (lR .i64) (l3 n)))),(81,nu [0] (lm (lA jT.ku) li) (pS 0 (Ao (lR .i64) (Ao (lR .i64) pG))) (lm (lA jT.ku) li) pd (fun(b:T8) a=>(nK n) b.1 a.1 a.2.1))])
def AS:{B:jT->Int->Option (T8×Unit) //∀(a0:jT)(a1:Int),run (OC n) [.at []] (UJ ((pS 0 (Ao (lR .i64) pG)).enc (a0,()) (a1,())) 10 ((lm (lA jT.ku) li).enc (a0,())))=B a0 a1}:=mB
def lX:=fu fun n=>(AS n).1
def oz:∀(n:Nat)(a0:jT)(a1:Int)(r:(T8×Unit)),lX n a0 a1=some r->Kk fB 109 ((pS 0 (Ao (lR .i64) pG)).enc (a0,()) (a1,())) ((lm (lA jT.ku) li).enc (a0,())) (fun o H'=>o=.ret (n6 (pd.enc r.1 r.2))/\H'=(lm (lA jT.ku) li).enc r.1)
 |0,_,_,_,h=>by cases h
 |n+1,a0,a1,r,h=>by
  exact pq (M:=OC n) ⟨(jW (lD (lu (p4 n))) (jW (kK (fun b a r h=>(uT n) b.1 a.1 a.2.1 r h)) j9)),ke,mU _,nn _,oR,oS,pM,qe⟩ func109 rfl rfl (by simp only[go_sem,fF,fG,fC,fD,fH,fI,fK,fL,fM,fE,fJ,fN]) ((lm (lA jT.ku) li).nb _ _) ntmps109 results109 (fun J hs=>rS hs) (((AS n).2 a0 a1).trans h)
@[reducible] def Rj:kR (T8×Unit):=nX fB f39 n (Fi fB [] (lm (lA jT.ku) li) pd 1) (cl:=ni [(61,qP (nG (mD (rI jT.ku) (lR .i64) (l3 n)))),(81,nu [0] (lm (lA jT.ku) li) (pS 0 (Ao (lR .i64) (Ao (lR .i64) pG))) (lm (lA jT.ku) li) pd (fun(b:T8) a=>(nK n) b.1 a.1 a.2.1))])
def I6:{B:jT->Option (T8×Unit) //∀(a0:jT),run (Rj n) [.at []] (UJ ((pS 0 pG).enc (a0,()) ()) 6 ((lm (lA jT.ku) li).enc (a0,())))=B a0}:=mB
def oH:=fu fun n=>(I6 n).1
def qu:∀(n:Nat)(a0:jT)(r:(T8×Unit)),oH n a0=some r->Kk fB 39 ((pS 0 pG).enc (a0,()) ()) ((lm (lA jT.ku) li).enc (a0,())) (fun o H'=>o=.ret (n6 (pd.enc r.1 r.2))/\H'=(lm (lA jT.ku) li).enc r.1)
 |0,_,_,h=>by cases h
 |n+1,a0,r,h=>by
  exact pq (M:=Rj n) ⟨(jW (lD (lu (p4 n))) (jW (kK (fun b a r h=>(uT n) b.1 a.1 a.2.1 r h)) j9)),ke,mU _,nn _,oR,oS,pM,qe⟩ func39 rfl rfl (by simp only[go_sem,fF,fG,fC,fD,fH,fI,fK,fL,fM,fE,fJ,fN]) ((lm (lA jT.ku) li).nb _ _) ntmps39 results39 (fun J hs=>rS hs) (((I6 n).2 a0).trans h)
@[reducible] def Sl:kR Bool:=nX fB f201 n (nT fB [.tmp 2] nk) (cl:=ni [(38,mD (rI jT.ku) (lJ kH.ku) (mi n)),(108,rL (rI jT.ku) mb nk (lM n)),(174,mD mb nk (Dq n))])
def Au:R2 (Sl n) (rI jT.ku) 18:=mB
def u6:=fu fun n=>(Au n).1
def F2:∀n:Nat,zm fB 201 (rI jT.ku) nk (u6 n):=AH fun n=>Ap (Au n) (gd (jW (lU (mA n)) (jW (pg (nj n)) (jW (lU (IA n)) j9))) ke) func201 ntmps201 results201
@[reducible] def aau:kR Bool:=nX fB f171 n (nT fB [.tmp 2] nk) (cl:=ni [(38,mD (rI jT.ku) (lJ kH.ku) (mi n)),(62,rL (rI jT.ku) mb nk (xf n)),(108,rL (rI jT.ku) mb nk (lM n))])
def EI:R2 (aau n) (rI jT.ku) 42:=mB
def yB:=fu fun n=>(EI n).1
def La:∀n:Nat,zm fB 171 (rI jT.ku) nk (yB n):=AH fun n=>Ap (EI n) (gd (jW (lU (mA n)) (jW (pg (BR n)) (jW (pg (nj n)) j9))) ke) func171 ntmps171 results171
@[go_sem]def afu:wH:=⟨[],[],(zT (mZ jV.row)::zK::zK::zA::zA::zA::zK::zA::zK::mG (nf (nf (zA::zA::zA::[])))),[oK],none,none⟩
@[reducible] def ahZ:kR (jV×Bool):=nX fB f228 n (nT fB [.cell 6 53,.tmp 7] (ty2 (lJ jV.ku) nk)) (cl:=ni [(116,mD (lJ jV.ku) nk (zD n)),(117,mD (lJ jV.ku) mb (I0 n))]) (rK:=qF [([0,1,0,1],afu)])
@[go_sem]abbrev afv(v0:List jV)(v1:Str)(v2:Bool)(v3:Int):jX:=⟨(.lS false 4 (mp jV.cells v0)::.str (sb v1)::.bool v2::qA::qA::qA::.ptr 0 0::qA::.int .i64 v3::mM (nv (nv (qA::qA::qA::[])))),[.cells [.lS true 0 [],.int .i64 0,.int .i64 0,.str (sb [])]],0,[]⟩
abbrev afw:=(List jV)->Str->Bool->Int->Option (jV×Bool)
abbrev aot(K:List Kt)(Z:afw):Prop:=∀v0 v1 v2 v3,run (ahZ n) K (afv v0 v1 v2 v3)=Z v0 v1 v2 v3
def H8:LB (aot n) [0,1,0,1] [.qU 0,.cut [1,1],.at [1,1]]:=mB
def H9:Nat->afw:=xb ((H8 n).1)
def ZX{n:Nat}:H9 n (m+1)=(H8 n).1 (H9 n m):=rfl
@[go_sem]def ajs(m:Nat):=yL (H8 n) (H9 n) m
def YH:SC3 (ahZ n) (mZ jV.row) mb nk 36:=mB
def Nl:=fu fun n=>(YH n).1
def afx:∀n:Nat,aqU fB 228 (mZ jV.row) mb nk (ty2 (lJ jV.ku) nk) (Nl n):=aCc fun n=>azF (YH n) (gd (jW (lU (Bi n)) (jW (lU (aLS n)) j9)) ke) func228 ntmps228 results228
open Go.Proofs
@[go_sem]def ZY:wH:=⟨[],[],(zK::zA::zA::zA::zT (mZ mq)::zK::vD (zA::zA::zA::[])),[],none,none⟩
@[go_sem]def ZZ:wH:=⟨[],[],(zK::zA::zA::zK::vD (nf (zA::[]))),[],none,none⟩
@[reducible] def Rk:kR Bool:=nX fB f45 n (nT fB [.tmp 2] nk) (cl:=ni [(49,mD mb nk (HK n)),(84,mD (lR .u8) nk (xp n)),(85,rL mb (lR .i64) (lR .i64) (Ed n)),(86,mD (lR .u8) nk (Ya n)),(87,ata (awL mq) (N9 n))]) (rK:=qF [([0,1,0,1,1,1,1,1],ZY),([0,1,0,1,1,1],ZZ)])
@[go_sem]abbrev Z0(v0:Str)(v1:List Str)(v2:Int):jX:=⟨(.str (sb v0)::qA::qA::qA::.lS false 1 (mp nh v1)::.int .i64 v2::vC (qA::qA::qA::[])),[],0,[]⟩
abbrev akW(K:List Kt)(Z:zn):Prop:=∀v0 v1 v2,run (Rk n) K (Z0 v0 v1 v2)=Z v0 v1 v2
@[go_sem]abbrev Z1(v0:Str)(v1:Int):jX:=⟨(.str (sb v0)::qA::qA::.int .i64 v1::vC (nv (qA::[]))),[],0,[]⟩
abbrev akX(K:List Kt)(Z:Iz):Prop:=∀v0 v1,run (Rk n) K (Z1 v0 v1)=Z v0 v1
def Eg:LB (akW n) [0,1,0,1,1,1,1,1] [.qU 2,.cut [1,1,1,1,1,1],.at [1,1,1,1,1,1]]:=mB
def AC:Nat->zn:=xb ((Eg n).1)
def Ui{n:Nat}:AC n (m+1)=(Eg n).1 (AC n m):=rfl
@[go_sem]def agx(m:Nat):=yL (Eg n) (AC n) m
def Eh:LB (akX n) [0,1,0,1,1,1] [.qU 0,.cut [1,1,1,1],.at [1,1,1,1]]:=mB
def Ei:Nat->Iz:=xb ((Eh n).1)
def Uj{n:Nat}:Ei n (m+1)=(Eh n).1 (Ei n m):=rfl
@[go_sem]def agy(m:Nat):=yL (Eh n) (Ei n) m
def Rl:R2 (Rk n) mb 73:=mB
def Lb:=fu fun n=>(Rl n).1
def Z2:∀n:Nat,zm fB 45 mb nk (Lb n):=AH fun n=>Ap (Rl n) (gd (jW (lU (We n)) (jW (lU (IC n)) (jW (pg (Q8 n)) (jW (lU (aoe n)) (jW (ahu (abJ n)) j9))))) ke) func45 ntmps45 results45
@[reducible] def akY:kR Bool:=nX fB f185 n (nT fB [.tmp 2] nk) (cl:=ni [(148,Nk (FZ n))])
def Pf:R2 (akY n) mb 6:=mB
def NK:=fu fun n=>(Pf n).1
def ajt:∀n:Nat,zm fB 185 mb nk (NK n):=AH fun n=>Ap (Pf n) (gd (jW (tY (Ug n)) j9) ke) func185 ntmps185 results185
@[go_sem]def Ms:wH:=⟨[],[],(zK::mG (mG (mG (nf (zA::zA::[]))))),[oC [zK,zK,zK,zK,zK],oK,oK,oK],none,none⟩
@[go_sem]abbrev AT(F:Str->Int->Ta->Ta->Ta->Option (Tm×Unit))(b:Tm)(a:Unit):=F b.1.1 b.1.2.1 b.2.1 b.2.2.1 b.2.2.2.1
@[go_sem]def OD(F:Str->Int->Ta->Ta->Ta->Option (Tm×Unit)):=aaj [.arg 0 [],.Ci 0 2 [],.Ci 0 3 [],.Ci 0 4 []] kU (my 0 k7) kU k7 (AT F)
@[reducible] def F3:kR (Tm×Unit):=nX fB f155 n (Dj fB [] [] [0,1,2,3] 4 kU k7) (cl:=ni [(93,rL mb mb nk (E7 n)),(188,rL mb (lR .i32) nk (xD n)),(189,rL mb mb (ty3 mb mb nk) (strings_Cut n))]) (rK:=qF [([0],Ms)]) (uO:=mc []) (uR:=mc [])
@[go_sem]def acu:aoa (F3 n) [0,0,0,0] [0,0,1,0,0]:=⟨jR,jR⟩
@[go_sem]abbrev Mt(v0:Str)(v1:Int)(r1 r2 r3:List (Str×Bool)):jX:=⟨(.ptr 0 0::mM (mM (mM (nv (qA::qA::[]))))),[.cells [.str (sb v0),.int .i64 v1,.map 1,.map 2,.map 3],.map (mp Gr r1),.map (mp Gr r2),.map (mp Gr r3)],4,[]⟩
abbrev Mu:=Str->Int->Ta->Ta->Ta->Option (Tm×Unit)
abbrev aav(K:List Kt)(Z:Mu):Prop:=∀v0 v1 r1 r2 r3,run (F3 n) K (Mt v0 v1 r1 r2 r3)=Z v0 v1 r1 r2 r3
def z1:LB (aav n) [0] [.qU 0]:=mB
def z6:Nat->Mu:=xb ((z1 n).1)
def aL8{n:Nat}:z6 n (m+1)=(z1 n).1 (z6 n m):=rfl
@[go_sem]def Vl(m:Nat):=yL (z1 n) (z6 n) m
def F4:SX (F3 n) (my 0 k7) kU 55 AT:=mC
def xg:=fu fun n=>(F4 n).1
def aaw:∀n:Nat,R8 fB 155 (my 0 k7) kU kU k7 (AT (xg n)):=ahI fun n=>abF (F4 n) (gd (jW (pg (ab7 n)) (jW (pg (WQ n)) (jW (pg (amP n)) j9))) ke) func155 ntmps155 results155
@[reducible] def Lc:kR (Tm×(Int×TD)):=nX fB f154 n (Dj fB [.tmp 2,.tmp 3,.tmp 4] [] [0,1,2,3] 4 kU oh) (cd:=N5 [(187,nG (aqG (rL mb mb (lR .i64) (xS n)) (rL mb mb (lR .i64) (strings_IndexAny n))))]) (uO:=mc []) (uR:=mc [])
@[go_sem]def YI:aCb (Lc n) [0,0,1,0,1,1] [0,0,1,1] [0,1] [0,1,1,1]:=⟨jR,jR,jR,jR⟩
def DG:SX (Lc n) (my 0 k7) kU 45 oO:=mC
def AU:=fu fun n=>(DG n).1
def aL9:∀n:Nat,R8 fB 154 (my 0 k7) kU kU oh (oO (AU n)):=ahI fun n=>abF (DG n) (gd j9 (oJ (awK (pm (abH n)) (pm (aez n))) ke)) func154 ntmps154 results154
@[reducible] def acv:kR Tw:=nX fB f72 n (qI fB [] [] [0] 1 jS k7) (pT:=qJ [] [0] 1 jS j8) (cp:=Aj [(103,lV (nq n))]) (wF:=mc [103])
def AW:SX (acv n) (my 0 (mH (lR .i64) k7)) jS 8 pU:=Al
def lN:=fu fun n=>(AW n).1
def mV:∀n:Nat,sV fB 72 (my 0 (mH (lR .i64) k7)) jS true jS k7 jS j8 (pU (lN n)):=Wa fun n=>Dk (AW n) (gd j9 ke (p:=(kz (kS (uZ n)) lT))) func72 ntmps72 results72
@[go_sem]abbrev rT(F:Bool->jU->Option Tw)(b:T6)(a:(Bool×Unit)):=F a.1 b.1.1
@[go_sem]def rU(F:Bool->jU->Option Tw):=wI true [.arg 0 []] jS (my 0 (mH nk k7)) jS k7 jS j8 (rT F)
@[reducible] def YJ:kR Tw:=nX fB f57 n (qI fB [] [] [0] 1 jS k7) (pT:=qJ [] [0] 1 jS j8) (cp:=Aj [(103,lV (nq n))]) (wF:=mc [103])
def DH:SX (YJ n) (my 0 (mH nk k7)) jS 8 rT:=Al
def mP:=fu fun n=>(DH n).1
def pE:∀n:Nat,sV fB 57 (my 0 (mH nk k7)) jS true jS k7 jS j8 (rT (mP n)):=Wa fun n=>Dk (DH n) (gd j9 ke (p:=(kz (kS (uZ n)) lT))) func57 ntmps57 results57
open Go.Proofs
@[reducible] def Rm:kR Bool:=nX fB f123 n (nT fB [.tmp 2] nk) (cl:=ni [(79,rL (rI jU.ku) mb nk (nP n)),(159,mD (rI jU.ku) nk (uV n))])
def zJ:R2 (Rm n) (rI jU.ku) 9:=mB
def sA:=fu fun n=>(zJ n).1
def yW:∀n:Nat,zm fB 123 (rI jU.ku) nk (sA n):=AH fun n=>Ap (zJ n) (gd (jW (pg (pz n)) (jW (lU (Cv n)) j9)) ke) func123 ntmps123 results123
@[reducible] def Ld:kR (Td×(Bool×Unit)):=nX fB f122 n (Fi fB [.tmp 4] (lm (lA jU.ku) li) (sr nk pd) 1) (cl:=ni [(59,nu [0] (lm (lA jU.ku) li) (pS 0 pG) (lm (lA jU.ku) li) (sr mb pd) (fun(b:Td) a=>(lr n) b.1)),(79,qP (nG (rL (rI jU.ku) mb nk (nP n))))])
def DI:{B:jU->Str->Option (Td×(Bool×Unit)) //∀(a0:jU)(a1:Str),run (Ld n) [.at []] (UJ ((pS 0 (Ao mb pG)).enc (a0,()) (a1,())) 13 ((lm (lA jU.ku) li).enc (a0,())))=B a0 a1}:=mB
def l6:=fu fun n=>(DI n).1
def mJ:∀(n:Nat)(a0:jU)(a1:Str)(r:(Td×(Bool×Unit))),l6 n a0 a1=some r->Kk fB 122 ((pS 0 (Ao mb pG)).enc (a0,()) (a1,())) ((lm (lA jU.ku) li).enc (a0,())) (fun o H'=>o=.ret (n6 ((sr nk pd).enc r.1 r.2))/\H'=(lm (lA jU.ku) li).enc r.1)
 |0,_,_,_,h=>by cases h
 |n+1,a0,a1,r,h=>by
  exact pq (M:=Ld n) ⟨(jW (kK (fun b a r h=>(l5 n) b.1 r h)) (jW (lD (pm (pz n))) j9)),ke,mU _,nn _,oR,oS,pM,qe⟩ func122 rfl rfl (by simp only[go_sem,fF,fG,fC,fD,fH,fI,fK,fL,fM,fE,fJ,fN]) ((lm (lA jU.ku) li).nb _ _) ntmps122 results122 (fun J hs=>rS hs) (((DI n).2 a0 a1).trans h)
@[go_sem]def afy:wH:=⟨[],[],(zK::zK::mG (nf (nf (nf (zA::[]))))),[],none,none⟩
@[reducible] def ah0:kR Int:=nX fB f88 n (nT fB [.tmp 4] (lR .i64)) (cl:=ni [(84,mD (lR .u8) nk (xp n)),(85,rL mb (lR .i64) (lR .i64) (Ed n))]) (rK:=qF [([0,0,1,1],afy)])
@[go_sem]abbrev afz(v0:Str)(v1:Int):jX:=⟨(.str (sb v0)::.int .i64 v1::mM (nv (nv (nv (qA::[]))))),[],0,[]⟩
abbrev aou(K:List Kt)(Z:um):Prop:=∀v0 v1,run (ah0 n) K (afz v0 v1)=Z v0 v1
def NL:LB (aou n) [0,0,1,1] [.qU 0,.cut [1,1,1],.at [1,1,1]]:=mB
def NM:Nat->um:=xb ((NL n).1)
def akZ{n:Nat}:NM n (m+1)=(NL n).1 (NM n m):=rfl
@[go_sem]def aju(m:Nat):=yL (NL n) (NM n) m
def YK:SC2 (ah0 n) mb (lR .i64) 31:=mB
def YL:=fu fun n=>(YK n).1
def aov:∀n:Nat,Gx fB 88 mb (lR .i64) (lR .i64) (YL n):=IT fun n=>IS (YK n) (gd (jW (lU (IC n)) (jW (pg (Q8 n)) j9)) ke) func88 ntmps88 results88
@[reducible] def JM:kR TT:=nX fB f168 n (Fi fB [.tmp 2] (lm (lA jT.ku) li) (sr mb pd) 1) (cl:=ni [(38,qP (nG (mD (rI jT.ku) (lJ kH.ku) (mi n)))),(39,nu [0] (lm (lA jT.ku) li) (pS 0 pG) (lm (lA jT.ku) li) pd (fun(b:T8) a=>(oH n) b.1)),(63,nu [0] (lm (lA jT.ku) li) (pS 0 pG) (lm (lA jT.ku) li) pd (fun(b:T8) a=>(kW n) b.1)),(201,qP (nG (mD (rI jT.ku) nk (u6 n))))])
def xZ:{B:jT->Option TT //∀(a0:jT),run (JM n) [.at []] (UJ ((pS 0 pG).enc (a0,()) ()) 15 ((lm (lA jT.ku) li).enc (a0,())))=B a0}:=mB
def oB:=fu fun n=>(xZ n).1
def uu:∀(n:Nat)(a0:jT)(r:TT),oB n a0=some r->Kk fB 168 ((pS 0 pG).enc (a0,()) ()) ((lm (lA jT.ku) li).enc (a0,())) (fun o H'=>o=.ret (n6 ((sr mb pd).enc r.1 r.2))/\H'=(lm (lA jT.ku) li).enc r.1)
 |0,_,_,h=>by cases h
 |n+1,a0,r,h=>by
  exact pq (M:=JM n) ⟨(jW (lD (lu (mA n))) (jW (kK (fun b a r h=>(qu n) b.1 r h)) (jW (kK (fun b a r h=>(l4 n) b.1 r h)) (jW (lD (lu (F2 n))) j9)))),ke,mU _,nn _,oR,oS,pM,qe⟩ func168 rfl rfl (by simp only[go_sem,fF,fG,fC,fD,fH,fI,fK,fL,fM,fE,fJ,fN]) ((lm (lA jT.ku) li).nb _ _) ntmps168 results168 (fun J hs=>rS hs) (((xZ n).2 a0).trans h)
@[reducible] def PM:kR (T8×Unit):=nX fB f107 n (Fi fB [] (lm (lA jT.ku) li) pd 1) (cl:=ni [(39,nu [0] (lm (lA jT.ku) li) (pS 0 pG) (lm (lA jT.ku) li) pd (fun(b:T8) a=>(oH n) b.1)),(62,qP (nG (rL (rI jT.ku) mb nk (xf n)))),(63,nu [0] (lm (lA jT.ku) li) (pS 0 pG) (lm (lA jT.ku) li) pd (fun(b:T8) a=>(kW n) b.1)),(108,qP (nG (rL (rI jT.ku) mb nk (lM n))))])
def Hv:{B:jT->Str->Option (T8×Unit) //∀(a0:jT)(a1:Str),run (PM n) [.at []] (UJ ((pS 0 (Ao mb pG)).enc (a0,()) (a1,())) 18 ((lm (lA jT.ku) li).enc (a0,())))=B a0 a1}:=mB
def lP:=fu fun n=>(Hv n).1
def p5:∀(n:Nat)(a0:jT)(a1:Str)(r:(T8×Unit)),lP n a0 a1=some r->Kk fB 107 ((pS 0 (Ao mb pG)).enc (a0,()) (a1,())) ((lm (lA jT.ku) li).enc (a0,())) (fun o H'=>o=.ret (n6 (pd.enc r.1 r.2))/\H'=(lm (lA jT.ku) li).enc r.1)
 |0,_,_,_,h=>by cases h
 |n+1,a0,a1,r,h=>by
  exact pq (M:=PM n) ⟨(jW (kK (fun b a r h=>(qu n) b.1 r h)) (jW (lD (pm (BR n))) (jW (kK (fun b a r h=>(l4 n) b.1 r h)) (jW (lD (pm (nj n))) j9)))),ke,mU _,nn _,oR,oS,pM,qe⟩ func107 rfl rfl (by simp only[go_sem,fF,fG,fC,fD,fH,fI,fK,fL,fM,fE,fJ,fN]) ((lm (lA jT.ku) li).nb _ _) ntmps107 results107 (fun J hs=>rS hs) (((Hv n).2 a0 a1).trans h)
@[go_sem]def kI:=(EY (VP (alC jT.ku 8 k7)) Fw)
@[go_sem]abbrev BT(F:jT->Option TO)(b:(T8×Unit))(a:Unit):=F b.1.1
@[go_sem]def PN(F:jT->Option TO):=aaj [.arg 0 []] kI (my 0 k7) kI (mH mb k7) (BT F)
@[reducible] def aeA:kR TO:=nX fB f104 n (Dj fB [.tmp 2] [] [0] 1 kI (mH mb k7)) (cl:=ni [(38,qP (nG (mD (rI jT.ku) (lJ kH.ku) (mi n)))),(39,nu [0] (lm (lA jT.ku) li) (pS 0 pG) (lm (lA jT.ku) li) pd (fun(b:T8) a=>(oH n) b.1)),(63,nu [0] (lm (lA jT.ku) li) (pS 0 pG) (lm (lA jT.ku) li) pd (fun(b:T8) a=>(kW n) b.1))])
def BU:SX (aeA n) (my 0 k7) kI 15 BT:=mC
def vU:=fu fun n=>(BU n).1
def OE:∀n:Nat,R8 fB 104 (my 0 k7) kI kI (mH mb k7) (BT (vU n)):=ahI fun n=>abF (BU n) (gd (jW (lD (lu (mA n))) (jW (kK (fun b a r h=>(qu n) b.1 r h)) (jW (kK (fun b a r h=>(l4 n) b.1 r h)) j9))) ke) func104 ntmps104 results104
open Go.Proofs
@[go_sem]def qj:=(EY (VP (alC kj.ku 4 k7)) Fw)
@[go_sem]abbrev xE(F:jV->Int->(List Syntax)->Int->kj->Option Tx)(b:(TJ×Unit))(a:T12):=F a.1 a.2.1 a.2.2.1 a.2.2.2.1 b.1.1
@[go_sem]def F5(F:jV->Int->(List Syntax)->Int->kj->Option Tx):=aaj [.arg 0 []] qj om qj (mH (lJ Syntax.ku) k7) (xE F)
structure lh where
 oI:kj->Int->Option Tn
 n4:kj->Int->Option Tn
 qR:jV->Int->(List Syntax)->Int->kj->Option Tx
open Go.Proofs
@[go_sem]def Mv:wH:=⟨[],[],(zK::zK::zA::zA::zK::zA::zK::zK::mG (mG (mG (nf (nf (nf (zA::[]))))))),[oT kj.ku,oK,oT Syntax.ku],none,none⟩
@[reducible] def F6(X:lh)(n:Nat):kR Tn:=nX fB f203 n (Fi fB [.cell 4 29,.tmp 5] (lm (lA kj.ku) li) (sr (lJ Syntax.ku) (sr (lR .i64) pd)) 1) (cl:=ni [(226,nu [0] (lm (lA kj.ku) li) (pS 0 (Ao (lR .i64) pG)) (lm (lA kj.ku) li) (sr (lJ Syntax.ku) (sr (lR .i64) pd)) (fun(b:TJ) a=>X.n4 b.1 a.1)),(227,nu [0] (lm (lA kj.ku) li) (pS 0 pG) (lm (lA kj.ku) li) (sr mb (sr nk pd)) (fun(b:TJ) a=>(yx n) b.1)),(228,X1 (mZ jV.row) mb nk (ty2 (lJ jV.ku) nk) (Nl n)),(229,rL (lJ jV.ku) (lR .i64) (lR .i64) (Q4 n)),(230,F5 X.qR)]) (rK:=qF [([0,0,1,1,1],Mv)])
@[go_sem]abbrev Mw(v0 v1:Int)(o0:kj)(o2:Syntax):jX:=⟨(.ptr 0 0::.int .i64 v0::qA::qA::.ptr 1 0::qA::.ptr 2 0::.int .i64 v1::mM (mM (mM (nv (nv (nv (qA::[]))))))),[.cells (kj.cells o0),.cells [.int .i64 0,.str (sb []),.int .i64 0,.lS true 0 [],.lS true 0 [],.lS true 0 [],.int .i64 0,.int .i64 0],.cells (Syntax.cells o2)],1,[]⟩
abbrev Mx:=Int->Int->kj->Syntax->Option Tn
abbrev aax(X:lh)(n:Nat)(K:List Kt)(Z:Mx):Prop:=∀v0 v1 o0 o2,run (F6 X n) K (Mw v0 v1 o0 o2)=Z v0 v1 o0 o2
def q6(X:lh)(n:Nat):LB (aax X n) [0,0,1,1,1] [.qU 0,.cut [1,1,1,1],.at [1,1,1,1]]:=mB
def qk(X:lh)(n:Nat):Nat->Mx:=xb ((q6 X n).1)
def u7(X:lh){n:Nat}:qk X n (m+1)=(q6 X n).1 (qk X n m):=rfl
@[go_sem]def Vm(X:lh)(n:Nat)(m:Nat):=yL (q6 X n) (qk X n) m
def xF(X:lh)(n:Nat):{B:kj->Int->Option Tn //∀(a0:kj)(a1:Int),run (F6 X n) [.at []] (UJ ((pS 0 (Ao (lR .i64) pG)).enc (a0,()) (a1,())) 69 ((lm (lA kj.ku) li).enc (a0,())))=B a0 a1}:=mB
open Go.Proofs
@[reducible] def tv(X:lh)(n:Nat):kR Tn:=nX fB f226 n (Fi fB [.cell 4 29,.tmp 5] (lm (lA kj.ku) li) (sr (lJ Syntax.ku) (sr (lR .i64) pd)) 1) (cl:=ni [(145,mD (lJ jV.ku) nk (Jo n)),(230,F5 X.qR)]) (cd:=N5 [(228,nG (X1 (mZ jV.row) mb nk (ty2 (lJ jV.ku) nk) (Nl n)))]) (uO:=mc []) (uR:=mc [])
@[go_sem]def acw(X:lh)(n:Nat):aCb (tv X n) [0,0,1] [0,0,1,0,1,1,1,1,1,1,1] [0,1,1] [0,1,1,1,1]:=⟨jR,jR,jR,jR⟩
@[go_sem]def acy(X:lh)(n:Nat):N3 (tv X n) [0,0,1,0,1,1,1,1,1,1,1] 0 3=true/\Bh (tv X n) [0,1,1] 3 11 7 11 8 11 9 11/\N3 (tv X n) [0,1,1] 10 11=true/\akF (tv X n) [0,1,1,1,1] 3 11 5 11 10 11:=⟨jR,⟨jR,jR,jR,jR⟩,jR,jR,jR,jR⟩
def rM(X:lh)(n:Nat):{B:kj->Int->Option Tn //∀(a0:kj)(a1:Int),run (tv X n) [.at []] (UJ ((pS 0 (Ao (lR .i64) pG)).enc (a0,()) (a1,())) 82 ((lm (lA kj.ku) li).enc (a0,())))=B a0 a1}:=mB
open Go.Proofs
def My:wH:=⟨[],[],(zK::zA::zA::zK::zK::zA::zK::zA::zA::zA::zK::zK::zK::vD (mG (zA::[]))),[oT kj.ku,oT jV.ku,oK,oD,oA Syntax.row],none,none⟩
def Mz:wH:=⟨[],[],(zK::zA::zA::zL Syntax.row::zK::zA::zK::zA::zA::zA::zK::zK::zK::vD (mG (zA::[]))),[oT kj.ku,oT jV.ku,oK],(some 3),none⟩
@[reducible] def AX(X:lh)(n:Nat):kR Tx:=nX fB f230 n (Dj fB [.cell 10 29] [] [0] 1 qj (mH (lJ Syntax.ku) k7)) (cl:=ni [(203,nu [0] (lm (lA kj.ku) li) (pS 0 (Ao (lR .i64) pG)) (lm (lA kj.ku) li) (sr (lJ Syntax.ku) (sr (lR .i64) pd)) (fun(b:TJ) a=>X.oI b.1 a.1)),(227,nu [0] (lm (lA kj.ku) li) (pS 0 pG) (lm (lA kj.ku) li) (sr mb (sr nk pd)) (fun(b:TJ) a=>(yx n) b.1)),(229,rL (lJ jV.ku) (lR .i64) (lR .i64) (Q4 n)),(251,aD9 (lJ jV.ku) (mZ Syntax.row) (lR .i64) (lR .i64) (lJ Syntax.ku) (Uc n))]) (rK:=qF [([0,1,0,1,1],Mz),([0,1,0,1,1],My)]) (uO:=mc []) (uR:=mc [])
def acz(X:lh)(n:Nat):sP (AX X n) [0,1,1,1,0,0,1,0,0,1,0,1,1]=true:=jR
attribute [go_sem] acz My Mz
@[go_sem]abbrev MA(v0 v1 v2:Int)(o0:kj)(o1:jV)(r4:List Syntax)(c4:Nat):jX:=⟨(.ptr 0 0::qA::qA::.mE 4 c4::.int .i64 v0::qA::.ptr 1 0::qA::qA::qA::.ptr 2 0::.int .i64 v1::.int .i64 v2::vC (mM (qA::[]))),[.cells (kj.cells o0),.cells (jV.cells o1),.cells [.int .i64 0,.str (sb []),.int .i64 0,.lS true 0 [],.lS true 0 [],.lS true 0 [],.int .i64 0,.int .i64 0],.sU,.mE true 8 (mp Syntax.cells r4)],1,[]⟩
abbrev MB:=Int->Int->Int->kj->jV->(List Syntax)->Option Tx
abbrev aay(X:lh)(n:Nat)(K:List Kt)(Z:MB):Prop:=∀v0 v1 v2 o0 o1 r4 c4,c4=r4.length->run (AX X n) K (MA v0 v1 v2 o0 o1 r4 c4)=Z v0 v1 v2 o0 o1 r4
@[go_sem]abbrev MC(v0:List Syntax)(v1 v2 v3:Int)(o0:kj)(o1:jV):jX:=⟨(.ptr 0 0::qA::qA::.lS true 8 (mp Syntax.cells v0)::.int .i64 v1::qA::.ptr 1 0::qA::qA::qA::.ptr 2 0::.int .i64 v2::.int .i64 v3::vC (mM (qA::[]))),[.cells (kj.cells o0),.cells (jV.cells o1),.cells [.int .i64 0,.str (sb []),.int .i64 0,.lS true 0 [],.lS true 0 [],.lS true 0 [],.int .i64 0,.int .i64 0]],1,[]⟩
abbrev z7:=(List Syntax)->Int->Int->Int->kj->jV->Option Tx
abbrev z8(X:lh)(n:Nat)(K:List Kt)(Z:z7):Prop:=∀v0 v1 v2 v3 o0 o1,run (AX X n) K (MC v0 v1 v2 v3 o0 o1)=Z v0 v1 v2 v3 o0 o1
def ql(X:lh)(n:Nat):LB (aay X n) [0,1,0,1,1] [.qU 0,.cut [1,1,1],.at [1,1,1]]:=mB
def wT(X:lh)(n:Nat):Nat->MB:=xb ((ql X n).1)
def s5(X:lh){n:Nat}:wT X n (m+1)=(ql X n).1 (wT X n m):=rfl
@[go_sem]def Vn(X:lh)(n:Nat)(m:Nat):=yL (ql X n) (wT X n) m
def q7(X:lh)(n:Nat):{B:Nat->z7->z7 //∀m X0,z8 X n (.lq m [0,1,0,1,1]::[.qU 0,.cut [1,1,1],.at [1,1,1]]) X0->z8 X n (.at [0,0,1,0,1,1]::.lp m [0,1,0,1,1]::[.qU 0,.cut [1,1,1],.at [1,1,1]]) (B m X0)}:=mB
def wU(X:lh)(n:Nat):Nat->z7:=lpM fun m=>(q7 X n).1 m
def u9(X:lh){n:Nat}:wU X n (m+1)=(q7 X n).1 m (wU X n m):=rfl
@[go_sem]def Vo(X:lh)(n:Nat)(m:Nat):z8 X n (.lq m [0,1,0,1,1]::[.qU 0,.cut [1,1,1],.at [1,1,1]]) (wU X n m):=
 awY (G:=fun m Z=>z8 X n (.lq m [0,1,0,1,1]::[.qU 0,.cut [1,1,1],.at [1,1,1]]) Z) (fun _ _ _ _ _ _=>Jm) (fun m _ ih v0 v1 v2 v3 o0 o1=>C7.trans ((q7 X n).2 _ _ ih v0 v1 v2 v3 o0 o1)) m
def AY(X:lh)(n:Nat):SX (AX X n) om qj 94 xE:=mC
open Go.Proofs
def kP:Nat->lh
 |0=>⟨Fu.z,Fu.z,Fu.z⟩
 |n+1=>⟨(xF (kP n) n).1,(rM (kP n) n).1,(AY (kP n) n).1⟩
def oI:kj->Int->Option Tn:=(kP n).oI
def OF{n:Nat}:oI (n+1)=(xF (kP n) n).1:=rfl
def n4:kj->Int->Option Tn:=(kP n).n4
def xG{n:Nat}:n4 (n+1)=(rM (kP n) n).1:=rfl
def qR:jV->Int->(List Syntax)->Int->kj->Option Tx:=(kP n).qR
def acA{n:Nat}:qR (n+1)=(AY (kP n) n).1:=rfl
def lg{n:Nat}:(kP n).oI=oI n/\(kP n).n4=n4 n/\(kP n).qR=qR n:=⟨rfl,rfl,rfl⟩
def yX:∀n:Nat,(∀(a0:kj)(a1:Int)(r:Tn),(kP n).oI a0 a1=some r->Kk fB 203 ((pS 0 (Ao (lR .i64) pG)).enc (a0,()) (a1,())) ((lm (lA kj.ku) li).enc (a0,())) (fun o H'=>o=.ret (n6 ((sr (lJ Syntax.ku) (sr (lR .i64) pd)).enc r.1 r.2))/\H'=(lm (lA kj.ku) li).enc r.1))/\(∀(a0:kj)(a1:Int)(r:Tn),(kP n).n4 a0 a1=some r->Kk fB 226 ((pS 0 (Ao (lR .i64) pG)).enc (a0,()) (a1,())) ((lm (lA kj.ku) li).enc (a0,())) (fun o H'=>o=.ret (n6 ((sr (lJ Syntax.ku) (sr (lR .i64) pd)).enc r.1 r.2))/\H'=(lm (lA kj.ku) li).enc r.1))/\R8 fB 230 om qj qj (mH (lJ Syntax.ku) k7) (xE (kP n).qR)
 |0=>⟨fun _ _ _ h=>(by cases h),fun _ _ _ h=>(by cases h),fun _ _ _ h=>(by cases h)⟩
 |n+1=>by
  obtain⟨aaz,aaA,MD⟩:=yX n
  exact⟨fun a0 a1 r h=>pq (M:=F6 (kP n) n) ⟨(jW (kK (fun b a r h=>(aaA) b.1 a.1 r h)) (jW (kK (fun b a r h=>(KU n) b.1 r h)) (jW (adN (afx n)) (jW (pg (afs n)) (jW (tY (MD)) j9))))),ke,mU _,nn _,oR,oS,pM,qe⟩ func203 rfl rfl (by simp only[go_sem,fF,fG,fC,fD,fH,fI,fK,fL,fM,fE,fJ,fN]) ((lm (lA kj.ku) li).nb _ _) ntmps203 results203 (fun J hs=>rS hs) (((xF (kP n) n).2 a0 a1).trans h),
   fun a0 a1 r h=>pq (M:=tv (kP n) n) ⟨(jW (lU (QL n)) (jW (tY (MD)) j9)),(oJ (N4 (afx n)) ke),mU _,nn _,oR,oS,pM,qe⟩ func226 rfl rfl (by simp only[go_sem,fF,fG,fC,fD,fH,fI,fK,fL,fM,fE,fJ,fN]) ((lm (lA kj.ku) li).nb _ _) ntmps226 results226 (fun J hs=>rS hs) (((rM (kP n) n).2 a0 a1).trans h),
   abF (AY (kP n) n) (gd (jW (kK (fun b a r h=>(aaz) b.1 a.1 r h)) (jW (kK (fun b a r h=>(KU n) b.1 r h)) (jW (pg (afs n)) (jW (aEa (amX n)) j9)))) ke) func230 ntmps230 results230⟩
def aaB:∀(a0:kj)(a1:Int)(r:Tn),oI n a0 a1=some r->Kk fB 203 ((pS 0 (Ao (lR .i64) pG)).enc (a0,()) (a1,())) ((lm (lA kj.ku) li).enc (a0,())) (fun o H'=>o=.ret (n6 ((sr (lJ Syntax.ku) (sr (lR .i64) pd)).enc r.1 r.2))/\H'=(lm (lA kj.ku) li).enc r.1):=(yX n).1
def arW:∀(a0:kj)(a1:Int)(r:Tn),n4 n a0 a1=some r->Kk fB 226 ((pS 0 (Ao (lR .i64) pG)).enc (a0,()) (a1,())) ((lm (lA kj.ku) li).enc (a0,())) (fun o H'=>o=.ret (n6 ((sr (lJ Syntax.ku) (sr (lR .i64) pd)).enc r.1 r.2))/\H'=(lm (lA kj.ku) li).enc r.1):=(yX n).2.1
def arX:R8 fB 230 om qj qj (mH (lJ Syntax.ku) k7) (xE (qR n)):=(yX n).2.2
open Go.Proofs
@[go_sem]def Lf:wH:=⟨[],[],(zA::zA::zA::zK::zK::zK::mG (nf (nf (zA::zA::[])))),[oT jT.ku,oT kH.ku],none,none⟩
@[reducible] def EJ:kR T13:=nX fB f111 n (Fi fB [.tmp 2] (lm (lA jT.ku) li) (sr (lR .i64) pd) 1) (cl:=ni [(38,qP (nG (mD (rI jT.ku) (lJ kH.ku) (mi n)))),(39,nu [0] (lm (lA jT.ku) li) (pS 0 pG) (lm (lA jT.ku) li) pd (fun(b:T8) a=>(oH n) b.1)),(63,nu [0] (lm (lA jT.ku) li) (pS 0 pG) (lm (lA jT.ku) li) pd (fun(b:T8) a=>(kW n) b.1))]) (rK:=qF [([0,1,0,1,1,1,1,1],Lf)])
@[go_sem]abbrev Lg(v0 v1:Int)(o0:jT)(o1:kH):jX:=⟨(qA::qA::qA::.ptr 1 0::.int .i64 v0::.int .i64 v1::mM (nv (nv (qA::qA::[])))),[.cells (jT.cells o0),.cells (kH.cells o1)],1,[]⟩
abbrev Lh:=Int->Int->jT->kH->Option T13
abbrev YM(K:List Kt)(Z:Lh):Prop:=∀v0 v1 o0 o1,run (EJ n) K (Lg v0 v1 o0 o1)=Z v0 v1 o0 o1
def vV:LB (YM n) [0,1,0,1,1,1,1,1] [.qU 0,.cut [1,1,1,1,1,1],.at [1,1,1,1,1,1]]:=mB
def vW:Nat->Lh:=xb ((vV n).1)
def Ia{n:Nat}:vW n (m+1)=(vV n).1 (vW n m):=rfl
@[go_sem]def Sm(m:Nat):=yL (vV n) (vW n) m
def EK:{B:jT->Option T13 //∀(a0:jT),run (EJ n) [.at []] (UJ ((pS 0 pG).enc (a0,()) ()) 32 ((lm (lA jT.ku) li).enc (a0,())))=B a0}:=mB
def qv:=fu fun n=>(EK n).1
def DJ:∀(n:Nat)(a0:jT)(r:T13),qv n a0=some r->Kk fB 111 ((pS 0 pG).enc (a0,()) ()) ((lm (lA jT.ku) li).enc (a0,())) (fun o H'=>o=.ret (n6 ((sr (lR .i64) pd).enc r.1 r.2))/\H'=(lm (lA jT.ku) li).enc r.1)
 |0,_,_,h=>by cases h
 |n+1,a0,r,h=>by
  exact pq (M:=EJ n) ⟨(jW (lD (lu (mA n))) (jW (kK (fun b a r h=>(qu n) b.1 r h)) (jW (kK (fun b a r h=>(l4 n) b.1 r h)) j9))),ke,mU _,nn _,oR,oS,pM,qe⟩ func111 rfl rfl (by simp only[go_sem,fF,fG,fC,fD,fH,fI,fK,fL,fM,fE,fJ,fN]) ((lm (lA jT.ku) li).nb _ _) ntmps111 results111 (fun J hs=>rS hs) (((EK n).2 a0).trans h)
@[reducible] def GX:kR TT:=nX fB f143 n (Fi fB [.tmp 2] (lm (lA jT.ku) li) (sr mb pd) 1) (cl:=ni [(38,qP (nG (mD (rI jT.ku) (lJ kH.ku) (mi n)))),(39,nu [0] (lm (lA jT.ku) li) (pS 0 pG) (lm (lA jT.ku) li) pd (fun(b:T8) a=>(oH n) b.1)),(63,nu [0] (lm (lA jT.ku) li) (pS 0 pG) (lm (lA jT.ku) li) pd (fun(b:T8) a=>(kW n) b.1)),(174,mD mb nk (Dq n))])
def Av:{B:jT->Option TT //∀(a0:jT),run (GX n) [.at []] (UJ ((pS 0 pG).enc (a0,()) ()) 21 ((lm (lA jT.ku) li).enc (a0,())))=B a0}:=mB
def rA:=fu fun n=>(Av n).1
def zM:∀(n:Nat)(a0:jT)(r:TT),rA n a0=some r->Kk fB 143 ((pS 0 pG).enc (a0,()) ()) ((lm (lA jT.ku) li).enc (a0,())) (fun o H'=>o=.ret (n6 ((sr mb pd).enc r.1 r.2))/\H'=(lm (lA jT.ku) li).enc r.1)
 |0,_,_,h=>by cases h
 |n+1,a0,r,h=>by
  exact pq (M:=GX n) ⟨(jW (lD (lu (mA n))) (jW (kK (fun b a r h=>(qu n) b.1 r h)) (jW (kK (fun b a r h=>(l4 n) b.1 r h)) (jW (lU (IA n)) j9)))),ke,mU _,nn _,oR,oS,pM,qe⟩ func143 rfl rfl (by simp only[go_sem,fF,fG,fC,fD,fH,fI,fK,fL,fM,fE,fJ,fN]) ((lm (lA jT.ku) li).nb _ _) ntmps143 results143 (fun J hs=>rS hs) (((Av n).2 a0).trans h)
open Go.Proofs
@[go_sem]def acB:wH:=⟨[],[],(zA::zK::zA::zA::zA::zK::vD (mG (mG (nf (zA::zA::zA::[]))))),[oT jV.ku],none,none⟩
@[go_sem]def acC:wH:=⟨[],[],(zA::zK::zA::zK::zK::vD (mG (mG (nf (nf []))))),[oT jV.ku],none,none⟩
@[reducible] def Vp:kR Int:=nX fB f114 n (nT fB [.tmp 2] (lR .i64)) (cl:=ni [(45,mD mb nk (Lb n)),(116,mD (lJ jV.ku) nk (zD n)),(145,mD (lJ jV.ku) nk (Jo n)),(146,mD mb nk (Yp n))]) (rK:=qF [([0,1,0,1,1,1,1,1],acB),([0,1,0,1,1,1],acC)])
@[go_sem]abbrev acD(v0:Int)(o0:jV):jX:=⟨(qA::.ptr 0 0::qA::qA::qA::.int .i64 v0::vC (mM (mM (nv (qA::qA::qA::[]))))),[.cells (jV.cells o0)],0,[]⟩
abbrev acE:=Int->jV->Option Int
abbrev am6(K:List Kt)(Z:acE):Prop:=∀v0 o0,run (Vp n) K (acD v0 o0)=Z v0 o0
@[go_sem]abbrev acF(v0:Bool)(v1:Int)(o0:jV):jX:=⟨(qA::.ptr 0 0::qA::.bool v0::.int .i64 v1::vC (mM (mM (nv (nv []))))),[.cells (jV.cells o0)],0,[]⟩
abbrev acG:=Bool->Int->jV->Option Int
abbrev am7(K:List Kt)(Z:acG):Prop:=∀v0 v1 o0,run (Vp n) K (acF v0 v1 o0)=Z v0 v1 o0
def F7:LB (am6 n) [0,1,0,1,1,1,1,1] [.qU 2,.cut [1,1,1,1,1,1],.at [1,1,1,1,1,1]]:=mB
def CQ:Nat->acE:=xb ((F7 n).1)
def aMa{n:Nat}:CQ n (m+1)=(F7 n).1 (CQ n m):=rfl
@[go_sem]def ah1(m:Nat):=yL (F7 n) (CQ n) m
def F8:LB (am7 n) [0,1,0,1,1,1] [.qU 0,.cut [1,1,1,1],.at [1,1,1,1]]:=mB
def xH:Nat->acG:=xb ((F8 n).1)
def aMb{n:Nat}:xH n (m+1)=(F8 n).1 (xH n m):=rfl
@[go_sem]def ah2(m:Nat):=yL (F8 n) (xH n) m
def Vq:R2 (Vp n) (lJ jV.ku) 109:=mB
def Uk:=fu fun n=>(Vq n).1
def am8:∀n:Nat,zm fB 114 (lJ jV.ku) (lR .i64) (Uk n):=AH fun n=>Ap (Vq n) (gd (jW (lU (Z2 n)) (jW (lU (Bi n)) (jW (lU (QL n)) (jW (lU (aoo n)) j9)))) ke) func114 ntmps114 results114
def Z3:wH:=⟨[],[],(zK::mG (mG (mG (zA::zA::zT (mZ mq)::zK::zK::nf (nf (zA::[])))))),[],none,none⟩
def Z4:wH:=⟨[],[],(zK::mG (nf (nf (nf (zA::zA::zA::zK::zK::mG (nf (nf (nf (zA::[]))))))))),[],none,none⟩
def Z5:wH:=⟨[],[],(zK::nf (nf (nf (zA::zK::zK::mG (mG (nf (nf (nf (zA::zA::zA::[]))))))))),[],none,none⟩
@[reducible] def Li:kR Bool:=nX fB f149 n (nT fB [.tmp 2] nk) (cl:=ni [(150,ata (mZ mq) (Oj n)),(156,mD (lR .u8) (lR .i64) (C9 n)),(166,rL mb mb nk (strings_Contains n)),(184,mD (lR .u8) nk (yS n)),(185,mD mb nk (NK n))]) (rK:=qF [([0,1,0,1,1,1,1,1],Z3),([0,1,0,1,1,1],Z4),([0,1,0,0,1,0,1,1],Z5)])
attribute [go_sem] Z3 Z4 Z5
abbrev Z6(v0:Str)(v1:List Str)(v2 v3:Int):jX:=⟨(.str (sb v0)::mM (mM (mM (qA::qA::.lS false 1 (mp nh v1)::.int .i64 v2::.int .i64 v3::nv (nv (qA::[])))))),[],0,[]⟩
abbrev Z7:=Str->(List Str)->Int->Int->Option Bool
abbrev ak0(K:List Kt)(Z:Z7):Prop:=∀v0 v1 v2 v3,run (Li n) K (Z6 v0 v1 v2 v3)=Z v0 v1 v2 v3
abbrev Z8(v0:Str)(v1 v2:Int):jX:=⟨(.str (sb v0)::mM (nv (nv (nv (qA::qA::qA::.int .i64 v1::.int .i64 v2::mM (nv (nv (nv (qA::[]))))))))),[],0,[]⟩
abbrev ID:=Str->Int->Int->Option Bool
abbrev ak1(K:List Kt)(Z:ID):Prop:=∀v0 v1 v2,run (Li n) K (Z8 v0 v1 v2)=Z v0 v1 v2
abbrev Z9(v0:Str)(v1 v2:Int):jX:=⟨(.str (sb v0)::nv (nv (nv (qA::.int .i64 v1::.int .i64 v2::mM (mM (nv (nv (nv (qA::qA::qA::[]))))))))),[],0,[]⟩
abbrev aaa:List Kt:=[.qU 0,.cut [1,0,1,0,1,1],.at [1,0,1,0,1,1],.cut [1,1,1],.at [1,1,1]]
abbrev ak2(K:List Kt)(Z:ID):Prop:=∀v0 v1 v2,run (Li n) K (Z9 v0 v1 v2)=Z v0 v1 v2
attribute [go_sem] Z6 Z8 Z9 aaa
def Ej:LB (ak0 n) [0,1,0,1,1,1,1,1] [.qU 4,.cut [1,1,1,1,1,1],.at [1,1,1,1,1,1]]:=mB
def AD:Nat->Z7:=xb ((Ej n).1)
def Ul{n:Nat}:AD n (m+1)=(Ej n).1 (AD n m):=rfl
@[go_sem]def agz(m:Nat):=yL (Ej n) (AD n) m
def Ek:LB (ak1 n) [0,1,0,1,1,1] [.qU 2,.cut [1,1,1,1],.at [1,1,1,1]]:=mB
def El:Nat->ID:=xb ((Ek n).1)
def Um{n:Nat}:El n (m+1)=(Ek n).1 (El n m):=rfl
@[go_sem]def agA(m:Nat):=yL (Ek n) (El n) m
def Em:LB (ak2 n) [0,1,0,0,1,0,1,1] aaa:=mB
def En:Nat->ID:=xb ((Em n).1)
def Un{n:Nat}:En n (m+1)=(Em n).1 (En n m):=rfl
@[go_sem]def agB(m:Nat):=yL (Em n) (En n) m
def Rn:R2 (Li n) mb 63:=mB
def Lj:=fu fun n=>(Rn n).1
def aab:∀n:Nat,zm fB 149 mb nk (Lj n):=AH fun n=>Ap (Rn n) (gd (jW (ahu (ab4 n)) (jW (lU (Fy n)) (jW (pg (Hf n)) (jW (lU (Pa n)) (jW (lU (ajt n)) j9))))) ke) func149 ntmps149 results149
@[go_sem]abbrev AZ(F:Str->jU->Option Tw)(b:T6)(a:(Str×Unit)):=F a.1 b.1.1
@[go_sem]def oV(F:Str->jU->Option Tw):=wI true [.arg 0 []] jS (my 0 (mH mb k7)) jS k7 jS j8 (AZ F)
@[reducible] def acH:kR Tw:=nX fB f60 n (qI fB [] [] [0] 1 jS k7) (cl:=ni [(59,nu [0] (lm (lA jU.ku) li) (pS 0 pG) (lm (lA jU.ku) li) (sr mb pd) (fun(b:Td) a=>(lr n) b.1)),(74,qP (nG (X1 (rI jU.ku) (lR .i64) mb nk (uU n)))),(79,qP (nG (rL (rI jU.ku) mb nk (nP n))))]) (pT:=qJ [] [0] 1 jS j8) (cp:=Aj [(57,rU (mP n))]) (wF:=mc [57])
def F9:SX (acH n) (my 0 (mH mb k7)) jS 16 AZ:=Al
def mQ:=fu fun n=>(F9 n).1
def pH:∀n:Nat,sV fB 60 (my 0 (mH mb k7)) jS true jS k7 jS j8 (AZ (mQ n)):=Wa fun n=>Dk (F9 n) (gd (jW (kK (fun b a r h=>(l5 n) b.1 r h)) (jW (lD (N4 (yz n))) (jW (lD (pm (pz n))) j9))) ke (p:=(kz (kS (pE n)) lT))) func60 ntmps60 results60
@[go_sem]abbrev p6(F:jU->Option (PR TI (T6×T9)))(b:T6)(a:Unit):=F b.1.1
@[go_sem]def nY(F:jU->Option (PR TI (T6×T9))):=wI true [.arg 0 []] jS (my 0 k7) jS (mH mb k7) jS j8 (p6 F)
@[reducible] def Vr:kR (PR TI (T6×T9)):=nX fB f119 n (qI fB [.tmp 2] [] [0] 1 jS (mH mb k7)) (cl:=ni [(59,nu [0] (lm (lA jU.ku) li) (pS 0 pG) (lm (lA jU.ku) li) (sr mb pd) (fun(b:Td) a=>(lr n) b.1)),(123,qP (nG (mD (rI jU.ku) nk (sA n))))]) (pT:=qJ [] [0] 1 jS j8) (cp:=Aj [(57,rU (mP n))]) (wF:=mc [57])
def Br:SX (Vr n) (my 0 k7) jS 9 p6:=Al
def pV:=fu fun n=>(Br n).1
def tV:∀n:Nat,sV fB 119 (my 0 k7) jS true jS (mH mb k7) jS j8 (p6 (pV n)):=Wa fun n=>Dk (Br n) (gd (jW (kK (fun b a r h=>(l5 n) b.1 r h)) (jW (lD (lu (yW n))) j9)) ke (p:=(kz (kS (pE n)) lT))) func119 ntmps119 results119
@[go_sem]abbrev yY(F:jU->Option TX)(b:T6)(a:Unit):=F b.1.1
@[go_sem]def yZ(F:jU->Option TX):=wI true [.arg 0 []] jS (my 0 k7) jS (mH (lR .i64) k7) jS j8 (yY F)
@[reducible] def YN:kR TX:=nX fB f141 n (qI fB [.tmp 2] [] [0] 1 jS (mH (lR .i64) k7)) (cl:=ni [(56,qP (nG (mD (rI jU.ku) (lJ kH.ku) (mg n)))),(59,nu [0] (lm (lA jU.ku) li) (pS 0 pG) (lm (lA jU.ku) li) (sr mb pd) (fun(b:Td) a=>(lr n) b.1)),(181,mD mb (ty2 (lR .i64) aB6) (strconv_Atoi n))]) (pT:=qJ [] [0] 1 jS j8) (cp:=Aj [(57,rU (mP n))]) (wF:=mc [57])
def DK:SX (YN n) (my 0 k7) jS 18 yY:=Al
def rN:=fu fun n=>(DK n).1
def CR:∀n:Nat,sV fB 141 (my 0 k7) jS true jS (mH (lR .i64) k7) jS j8 (yY (rN n)):=Wa fun n=>Dk (DK n) (gd (jW (lD (lu (mm n))) (jW (kK (fun b a r h=>(l5 n) b.1 r h)) (jW (lU (akG n)) j9))) ke (p:=(kz (kS (pE n)) lT))) func141 ntmps141 results141
@[reducible] def Ro:kR (PR TI (T6×T9)):=nX fB f179 n (qI fB [.tmp 2] [] [0] 1 jS (mH mb k7)) (cl:=ni [(59,nu [0] (lm (lA jU.ku) li) (pS 0 pG) (lm (lA jU.ku) li) (sr mb pd) (fun(b:Td) a=>(lr n) b.1)),(159,qP (nG (mD (rI jU.ku) nk (uV n))))]) (pT:=qJ [] [0] 1 jS j8) (cp:=Aj [(57,rU (mP n))]) (wF:=mc [57])
def zN:SX (Ro n) (my 0 k7) jS 9 p6:=Al
def qS:=fu fun n=>(zN n).1
def E9:∀n:Nat,sV fB 179 (my 0 k7) jS true jS (mH mb k7) jS j8 (p6 (qS n)):=Wa fun n=>Dk (zN n) (gd (jW (kK (fun b a r h=>(l5 n) b.1 r h)) (jW (lD (lu (Cv n))) j9)) ke (p:=(kz (kS (pE n)) lT))) func179 ntmps179 results179
open Go.Proofs
@[reducible] def acI:kR (PR TI (T6×T9)):=nX fB f138 n (qI fB [.tmp 2] [] [0] 1 jS (mH mb k7)) (cl:=ni [(56,qP (nG (mD (rI jU.ku) (lJ kH.ku) (mg n)))),(59,nu [0] (lm (lA jU.ku) li) (pS 0 pG) (lm (lA jU.ku) li) (sr mb pd) (fun(b:Td) a=>(lr n) b.1))]) (pT:=qJ [] [0] 1 jS j8) (cp:=Aj [(57,rU (mP n))]) (wF:=mc [57])
def Ga:SX (acI n) (my 0 k7) jS 11 p6:=Al
def zO:=fu fun n=>(Ga n).1
def ME:∀n:Nat,sV fB 138 (my 0 k7) jS true jS (mH mb k7) jS j8 (p6 (zO n)):=Wa fun n=>Dk (Ga n) (gd (jW (lD (lu (mm n))) (jW (kK (fun b a r h=>(l5 n) b.1 r h)) j9)) ke (p:=(kz (kS (pE n)) lT))) func138 ntmps138 results138
@[go_sem]abbrev y8(F:jU->Option Tw)(b:T6)(a:Unit):=F b.1.1
@[go_sem]def Ll(F:jU->Option Tw):=wI true [.arg 0 []] jS (my 0 k7) jS k7 jS j8 (y8 F)
@[reducible] def y9:kR Tw:=nX fB f35 n (qI fB [] [] [0] 1 jS k7) (pT:=qJ [] [0] 1 jS j8) (co:=Mc [(56,QJ (nG (mD (rI jU.ku) (lJ kH.ku) (mg n)))),(57,E0 [.arg 0 []] jS (my 0 (mH nk k7)) jS k7 jS j8 (rT (mP n)))]) (uO:=mc [56,57]) (uR:=mc [])
def YO:sP (y9 n) []=true:=jR
def YP:N3 (y9 n) [] 6 9=true:=jR
def YQ:UD (y9 n) [] 9=true:=jR
attribute [go_sem] YO YP YQ
def DL:SX (y9 n) (my 0 k7) jS 12 y8:=Al
def xI:=fu fun n=>(DL n).1
def aMc:∀n:Nat,sV fB 35 (my 0 k7) jS true jS k7 jS j8 (y8 (xI n)):=Wa fun n=>Dk (DL n) (gd j9 ke (c:=(mw (Fx (lu (mm n))) (mw (zB (pE n)) qL)))) func35 ntmps35 results35
@[go_sem]def ah3:wH:=⟨[],[],(zK::zK::nf (zA::zA::zA::zK::zA::zA::zK::vD (vD (nf (zA::zA::[]))))),[],none,none⟩
@[go_sem]def ah4:wH:=⟨[],[],(zK::zK::nf (nf (zA::zA::zA::zK::vD (vD (nf (zA::[])))))),[],none,none⟩
@[reducible] def acJ:kR (Int×Int×Int):=nX fB f47 n (nT fB [.tmp 6,.tmp 7,.tmp 8] (ty3 (lR .i64) (lR .i64) (lR .i64))) (cl:=ni [(49,mD mb nk (HK n)),(84,mD (lR .u8) nk (xp n)),(87,ata (awL mq) (N9 n)),(88,rL mb (lR .i64) (lR .i64) (YL n)),(89,rL (mZ mq) mb nk (adS n)),(90,mD (lR .u8) nk (N8 n)),(91,X1 mb (lR .i64) (mZ mq) (lR .i64) (HP n))]) (rK:=qF [([0,0,1,0,1,1,1,0,0,1,1],ah3),([0,0,1,0,1,1,1,1,1,0,0,1,1],ah4)])
abbrev ah5(v0:Str)(v1 v2 v3:Int):jX:=⟨(.str (sb v0)::.int .i64 v1::nv (qA::qA::qA::.int .u8 v2::qA::qA::.int .i64 v3::vC (vC (nv (qA::qA::[]))))),[],0,[]⟩
abbrev ah6:List Kt:=[.qU 2,.cut [1,1,0,1,1,1,0,0,1,1],.at [1,1,0,1,1,1,0,0,1,1],.qU 0,.cut [1,1,1],.at [1,1,1]]
abbrev ah7:=Str->Int->Int->Int->Option (Int×Int×Int)
abbrev aq9(K:List Kt)(Z:ah7):Prop:=∀v0 v1 v2 v3,run (acJ n) K (ah5 v0 v1 v2 v3)=Z v0 v1 v2 v3
abbrev ah8(v0:Str)(v1 v2:Int):jX:=⟨(.str (sb v0)::.int .i64 v1::nv (nv (qA::qA::qA::.int .i64 v2::vC (vC (nv (qA::[])))))),[],0,[]⟩
abbrev ah9:List Kt:=[.qU 5,.cut [1,1,0,1,1,1,1,1,0,0,1,1],.at [1,1,0,1,1,1,1,1,0,0,1,1],.qU 0,.cut [1,1,1],.at [1,1,1]]
abbrev aia:=Str->Int->Int->Option (Int×Int×Int)
abbrev ara(K:List Kt)(Z:aia):Prop:=∀v0 v1 v2,run (acJ n) K (ah8 v0 v1 v2)=Z v0 v1 v2
attribute [go_sem] ah5 ah6 ah8 ah9
def Lm:LB (aq9 n) [0,0,1,0,1,1,1,0,0,1,1] ah6:=mB
def GG:Nat->ah7:=xb ((Lm n).1)
def acK{n:Nat}:GG n (m+1)=(Lm n).1 (GG n m):=rfl
@[go_sem]def ak3(m:Nat):=yL (Lm n) (GG n) m
def Ln:LB (ara n) [0,0,1,0,1,1,1,1,1,0,0,1,1] ah9:=mB
def Lo:Nat->aia:=xb ((Ln n).1)
def acL{n:Nat}:Lo n (m+1)=(Ln n).1 (Lo n m):=rfl
@[go_sem]def ak4(m:Nat):=yL (Ln n) (Lo n) m
def acM:SC3 (acJ n) mb (lR .i64) (mZ mq) 147:=mB
def adU:=fu fun n=>(acM n).1
def arb:∀n:Nat,aqU fB 47 mb (lR .i64) (mZ mq) (ty3 (lR .i64) (lR .i64) (lR .i64)) (adU n):=aCc fun n=>azF (acM n) (gd (jW (lU (We n)) (jW (lU (IC n)) (jW (ahu (abJ n)) (jW (pg (aov n)) (jW (pg (aq0 n)) (jW (lU (abI n)) (jW (adN (ajj n)) j9))))))) ke) func47 ntmps47 results47
@[go_sem]def GY:wH:=⟨[(3,1,true)],[],(zK::zA::zA::zK::mG (nf (nf []))),[oT jT.ku,oA mq],none,none⟩
@[reducible] def Bt:kR (T8×To):=nX fB f167 n (Fi fB [.tmp 2] (lm (lA jT.ku) li) (sr (mZ mq) pd) 1) (cl:=ni [(109,nu [0] (lm (lA jT.ku) li) (pS 0 (Ao (lR .i64) pG)) (lm (lA jT.ku) li) pd (fun(b:T8) a=>(lX n) b.1 a.1)),(168,nu [0] (lm (lA jT.ku) li) (pS 0 pG) (lm (lA jT.ku) li) (sr mb pd) (fun(b:T8) a=>(oB n) b.1)),(201,qP (nG (mD (rI jT.ku) nk (u6 n))))]) (rK:=qF [([0,0,1,1],GY)])
@[go_sem]abbrev GZ(o0:jT)(r1:List Str)(c1:Nat):jX:=⟨(.ptr 0 0::qA::qA::.mE 1 c1::mM (nv (nv []))),[.cells (jT.cells o0),.mE true 1 (mp nh r1)],1,[]⟩
abbrev G1:=jT->(List Str)->Option (T8×To)
abbrev Sn(K:List Kt)(Z:G1):Prop:=∀o0 r1 c1,c1=r1.length->run (Bt n) K (GZ o0 r1 c1)=Z o0 r1
def qH:LB (Sn n) [0,0,1,1] [.qU 0,.cut [1,1,1],.at [1,1,1]]:=mB
def rR:Nat->G1:=xb ((qH n).1)
def vu{n:Nat}:rR n (m+1)=(qH n).1 (rR n m):=rfl
@[go_sem]def Pg(m:Nat):=yL (qH n) (rR n) m
def Bu:{B:jT->Option (T8×To) //∀(a0:jT),run (Bt n) [.at []] (UJ ((pS 0 pG).enc (a0,()) ()) 28 ((lm (lA jT.ku) li).enc (a0,())))=B a0}:=mB
def rV:=fu fun n=>(Bu n).1
def Aw:∀(n:Nat)(a0:jT)(r:(T8×To)),rV n a0=some r->Kk fB 167 ((pS 0 pG).enc (a0,()) ()) ((lm (lA jT.ku) li).enc (a0,())) (fun o H'=>o=.ret (n6 ((sr (mZ mq) pd).enc r.1 r.2))/\H'=(lm (lA jT.ku) li).enc r.1)
 |0,_,_,h=>by cases h
 |n+1,a0,r,h=>by
  exact pq (M:=Bt n) ⟨(jW (kK (fun b a r h=>(oz n) b.1 a.1 r h)) (jW (kK (fun b a r h=>(uu n) b.1 r h)) (jW (lD (lu (F2 n))) j9))),ke,mU _,nn _,oR,oS,pM,qe⟩ func167 rfl rfl (by simp only[go_sem,fF,fG,fC,fD,fH,fI,fK,fL,fM,fE,fJ,fN]) ((lm (lA jT.ku) li).nb _ _) ntmps167 results167 (fun J hs=>rS hs) (((Bu n).2 a0).trans h)
def MF:wH:=⟨[],[],(zK::zA::zA::zA::zK::zK::zA::zA::zK::zK::zK::vD (vD (nf (nf [])))),[oT jT.ku,oK,oC [zK,zK],oD,oA ko.row],none,none⟩
def MG:wH:=⟨[],[],(zK::zA::zA::zA::zK::zK::zA::zK::vD (vD (nf (nf (zA::zA::zA::[]))))),[oT jT.ku,oK,oC [zK,zK],oD,oA ko.row],none,none⟩
@[go_sem]abbrev A0(F:Bool->jT->Option Th)(b:(T8×Unit))(a:(Bool×Unit)):=F a.1 b.1.1
@[go_sem]def Gb(F:Bool->jT->Option Th):=aaj [.arg 0 []] kI (my 0 (mH nk k7)) kI (mH (lJ j7.ku) k7) (A0 F)
@[reducible] def qN(X:Bool->jT->Option Th)(n:Nat):kR Th:=nX fB f262 n (Dj fB [.cell 4 80] [] [0] 1 kI (mH (lJ j7.ku) k7)) (cl:=ni [(38,qP (nG (mD (rI jT.ku) (lJ kH.ku) (mi n)))),(61,qP (nG (mD (rI jT.ku) (lR .i64) (l3 n)))),(63,nu [0] (lm (lA jT.ku) li) (pS 0 pG) (lm (lA jT.ku) li) pd (fun(b:T8) a=>(kW n) b.1)),(81,nu [0] (lm (lA jT.ku) li) (pS 0 (Ao (lR .i64) (Ao (lR .i64) pG))) (lm (lA jT.ku) li) pd (fun(b:T8) a=>(nK n) b.1 a.1 a.2.1)),(107,nu [0] (lm (lA jT.ku) li) (pS 0 (Ao mb pG)) (lm (lA jT.ku) li) pd (fun(b:T8) a=>(lP n) b.1 a.1)),(108,qP (nG (rL (rI jT.ku) mb nk (lM n)))),(109,nu [0] (lm (lA jT.ku) li) (pS 0 (Ao (lR .i64) pG)) (lm (lA jT.ku) li) pd (fun(b:T8) a=>(lX n) b.1 a.1)),(111,nu [0] (lm (lA jT.ku) li) (pS 0 pG) (lm (lA jT.ku) li) (sr (lR .i64) pd) (fun(b:T8) a=>(qv n) b.1)),(143,nu [0] (lm (lA jT.ku) li) (pS 0 pG) (lm (lA jT.ku) li) (sr mb pd) (fun(b:T8) a=>(rA n) b.1))]) (rK:=qF [([0,1,1,1,1,0,1,0,1,1,1,1,1],MF),([0,1,0,1,1,0,1,1,1,0,0,1,1,1,1],MG)]) (cut:=amN [([1,1,1,1,1,1],[4])] [([1,1,0,1,1,1,0,0,1,1,1,1],2,1,2,false)]) (co:=Mc [(112,QJ (nG (rL (rI jT.ku) mb nk (E8 n)))),(262,E0 [.arg 0 []] kI (my 0 (mH nk k7)) kI (mH (lJ j7.ku) k7) kI (mH (lJ j7.ku) k7) (fun(b:(T8×Unit))(a:(Bool×Unit))=>(X a.1 b.1.1).map fun r=>(PR.ok r:PR Th Th)))]) (uO:=mc [112,262]) (uR:=mc [])
def acN(X:Bool->jT->Option Th)(n:Nat):aoa (qN X n) [0,1,0,0,1,0,0,1,0,1,1,0,1,1,1,0,0,1,1,1,1] [0,1,1,0,0,1,1,1,1]:=⟨jR,jR⟩
def acO(X:Bool->jT->Option Th)(n:Nat):Bh (qN X n) [0,1,0,0,1,0,0,1,0,1,1,0,1,1,1,0,0,1,1,1,1] 1 5 3 5 1 7 3 7/\N3 (qN X n) [0,1,0,0,1,0,0,1,0,1,1,0,1,1,1,0,0,1,1,1,1] 5 7=true/\Bh (qN X n) [0,1,1,0,0,1,1,1,1] 1 6 1 11 1 12 1 19/\Bh (qN X n) [0,1,1,0,0,1,1,1,1] 1 23 1 25 1 27 1 34/\akF (qN X n) [0,1,1,0,0,1,1,1,1] 1 38 1 40 1 42:=⟨⟨jR,jR,jR,jR⟩,jR,⟨jR,jR,jR,jR⟩,⟨jR,jR,jR,jR⟩,jR,jR,jR⟩
attribute [go_sem] acN acO MF MG
abbrev MH(v0 v1 v2:Int)(o0:jT)(r4:List ko)(c4:Nat):jX:=⟨(.ptr 0 0::qA::qA::qA::.ptr 1 0::.ptr 2 0::qA::qA::.int .i64 v0::.int .i64 v1::.int .i64 v2::vC (vC (nv (nv [])))),[.cells (jT.cells o0),.cells [.bool false,.lS true 0 []],.cells [.bool false,.mE 4 c4],.sU,.mE false 2 (mp ko.cells r4)],1,[]⟩
abbrev MI:=Int->Int->Int->jT->(List ko)->Option Th
abbrev aaC(X:Bool->jT->Option Th)(n:Nat)(K:List Kt)(Z:MI):Prop:=∀v0 v1 v2 o0 r4 c4,c4=r4.length->run (qN X n) K (MH v0 v1 v2 o0 r4 c4)=Z v0 v1 v2 o0 r4
abbrev MJ(v0:Int)(o0:jT)(r4:List ko)(c4:Nat):jX:=⟨(.ptr 0 0::qA::qA::qA::.ptr 1 0::.ptr 2 0::qA::.int .i64 v0::vC (vC (nv (nv (qA::qA::qA::[]))))),[.cells (jT.cells o0),.cells [.bool false,.lS true 0 []],.cells [.bool false,.mE 4 c4],.sU,.mE false 2 (mp ko.cells r4)],1,[]⟩
abbrev MK:List Kt:=[.qU 1,.cut [1,1,1,0,1,1,1,0,0,1,1,1,1],.at [1,1,1,0,1,1,1,0,0,1,1,1,1],.qU 0,.cut [1,1,1,1,1],.at [1,1,1,1,1]]
abbrev ML:=Int->jT->(List ko)->Option Th
abbrev aaD(X:Bool->jT->Option Th)(n:Nat)(K:List Kt)(Z:ML):Prop:=∀v0 o0 r4 c4,c4=r4.length->run (qN X n) K (MJ v0 o0 r4 c4)=Z v0 o0 r4
attribute [go_sem] MH MJ MK
def wV(X:Bool->jT->Option Th)(n:Nat):LB (aaC X n) [0,1,1,1,1,0,1,0,1,1,1,1,1] [.qU 3,.cut [1,1,1,1,1,1],.at [1,1,1,1,1,1]]:=yp
def qm(X:Bool->jT->Option Th)(n:Nat):Nat->MI:=xb ((wV X n).1)
def JN(X:Bool->jT->Option Th){n:Nat}:qm X n (m+1)=(wV X n).1 (qm X n m):=rfl
@[go_sem]def Vs(X:Bool->jT->Option Th)(n:Nat)(m:Nat):=yL (wV X n) (qm X n) m
def wW(X:Bool->jT->Option Th)(n:Nat):LB (aaD X n) [0,1,0,1,1,0,1,1,1,0,0,1,1,1,1] MK:=yp
def wX(X:Bool->jT->Option Th)(n:Nat):Nat->ML:=xb ((wW X n).1)
def JO(X:Bool->jT->Option Th){n:Nat}:wX X n (m+1)=(wW X n).1 (wX X n m):=rfl
@[go_sem]def Vt(X:Bool->jT->Option Th)(n:Nat)(m:Nat):=yL (wW X n) (wX X n) m
def A1(X:Bool->jT->Option Th)(n:Nat):SX (qN X n) (my 0 (mH nk k7)) kI 147 A0:=Al
def lO:Nat->Bool->jT->Option Th
 |0,_,_=>none
 |n+1,a0,o0=>(A1 (lO n) n).1 a0 o0
def EL:∀n:Nat,R8 fB 262 (my 0 (mH nk k7)) kI kI (mH (lJ j7.ku) k7) (A0 (lO n))
 |0=>fun _ _ _ h=>(by cases h)
 |n+1=>by
  have aaE:=EL n;exact abF (A1 (lO n) n) (gdM (jW (lD (lu (mA n))) (jW (lD (lu (p4 n))) (jW (kK (fun b a r h=>(l4 n) b.1 r h)) (jW (kK (fun b a r h=>(uT n) b.1 a.1 a.2.1 r h)) (jW (kK (fun b a r h=>(p5 n) b.1 a.1 r h)) (jW (lD (pm (nj n))) (jW (kK (fun b a r h=>(oz n) b.1 a.1 r h)) (jW (kK (fun b a r h=>(DJ n) b.1 r h)) (jW (kK (fun b a r h=>(zM n) b.1 r h)) j9))))))))) ke (c:=(mw (Fx (pm (ach n))) (mw (abE (aaE)) qL)))) func262 ntmps262 results262
open Go.Proofs
@[go_sem]abbrev uf(F:jU->Option TB)(b:T6)(a:Unit):=F b.1.1
@[go_sem]def MM(F:jU->Option TB):=wI true [.arg 0 []] jS (my 0 k7) jS (mH (mZ ko.row) k7) jS j8 (uf F)
@[go_sem]def nH:=(my 0 (alF 288 (vlP 1 (vlP 2 vlN)) k7))
@[go_sem]def kO:=(EY (VP (alC jU.ku 6 k7)) (EY (VP (alA 3 k7)) (EY (VP (my 0 k7)) (EY (ogA false ko.row) Fw))))
@[go_sem]abbrev nR(F:jU->(List ko)->Option Tl)(b:(Td×(Unit×(Unit×((List ko)×Unit)))))(a:(Unit×Unit)):=F b.1.1 b.2.2.2.1
@[go_sem]def va(F:jU->(List ko)->Option Tl):=wI true [.arg 0 [],.arg 1 [0],.arg 1 [1],.Ci 1 0 []] kO nH kO k7 kO j8 (nR F)
@[go_sem]def mz:=(EY (VP (alA 2 k7)) (EY (VP (my 3 k7)) (EY (ogA false ko.row) (EY (VP (alC jU.ku 6 k7)) Fw))))
@[go_sem]abbrev vb(F:(List ko)->jU->Option Tq)(b:(Unit×(Unit×((List ko)×T6))))(a:Unit):=F b.2.2.1 b.2.2.2.1.1
@[go_sem]def JP(F:(List ko)->jU->Option Tq):=wI true [.arg 0 [],.arg 1 [],.Ci 0 0 [],.Ci 1 0 []] mz (my 0 (my 1 k7)) mz k7 mz j8 (vb F)
structure lw where
 pQ:jU->Option TB
 lW:jU->(List ko)->Option Tl
 q8:(List ko)->jU->Option Tq
open Go.Proofs
def Lp:wH:=⟨[],[],(zA::zA::zA::zK::zK::zK::vD (mG (mG (nf (nf (zA::zA::zK::zK::mG (nf (zA::zA::[])))))))),[oT jU.ku,oD,oC [zK],oA ko.row],none,none⟩
@[reducible] def q9(X:lw)(n:Nat):kR TB:=nX fB f281 n (qI fB [.tmp 2] [] [0] 1 jS (mH (mZ ko.row) k7)) (cl:=ni [(56,qP (nG (mD (rI jU.ku) (lJ kH.ku) (mg n)))),(58,qP (nG (mD (rI jU.ku) (lR .i64) (qf n)))),(59,nu [0] (lm (lA jU.ku) li) (pS 0 pG) (lm (lA jU.ku) li) (sr mb pd) (fun(b:Td) a=>(lr n) b.1)),(122,nu [0] (lm (lA jU.ku) li) (pS 0 (Ao mb pG)) (lm (lA jU.ku) li) (sr nk pd) (fun(b:Td) a=>(l6 n) b.1 a.1))]) (rK:=qF [([0,1,0,1,1,1,1,1,1],Lp)]) (cut:=amN [([1,0,1,0,1,1,1],[3]),([1,1,1,1,1,1,1,1],[3])] [([1,1,0,1,1,1,0,0,1,1],2,0,2,false)]) (pT:=qJ [] [0] 1 jS j8) (co:=Mc [(74,QJ (nG (X1 (rI jU.ku) (lR .i64) mb nk (uU n))))]) (cp:=Aj [(60,oV (mQ n)),(141,yZ (rN n)),(177,va X.lW),(179,nY (qS n))]) (wF:=mc [60,141,177,179]) (uO:=mc [74]) (uR:=mc [])
def aaF(X:lw)(n:Nat):sP (q9 X n) [0,1,1,0,0,1,1]=true:=jR
def aaG(X:lw)(n:Nat):Bh (q9 X n) [0,1,1,0,0,1,1] 0 3 3 5 3 9 3 11/\Bh (q9 X n) [0,1,1,0,0,1,1] 3 15 3 16 3 20 3 24/\Bh (q9 X n) [0,1,1,0,0,1,1] 3 25 3 29 3 31 3 33/\Bh (q9 X n) [0,1,1,0,0,1,1] 3 37 3 41 3 42 3 46/\aob (q9 X n) [0,1,1,0,0,1,1] 3 48 3 50:=⟨⟨jR,jR,jR,jR⟩,⟨jR,jR,jR,jR⟩,⟨jR,jR,jR,jR⟩,⟨jR,jR,jR,jR⟩,jR,jR⟩
attribute [go_sem] aaF aaG Lp
@[go_sem]abbrev Lq(v0 v1 v2 v3:Int)(o0:jU)(r3:List ko)(c3:Nat):jX:=⟨(qA::qA::qA::.ptr 2 0::.int .i64 v0::.int .i64 v1::vC (mM (mM (nv (nv (qA::qA::.int .i64 v2::.int .i64 v3::mM (nv (qA::qA::[])))))))),[.cells (jU.cells o0),.sU,.cells [.mE 3 c3],.mE false 2 (mp ko.cells r3)],1,[]⟩
@[go_sem]abbrev Lr:List Kt:=[.qU 1,.cut [1,1,1,1,1,1,1],.at [1,1,1,1,1,1,1]]
abbrev Ls:=Int->Int->Int->Int->jU->(List ko)->Option TB
abbrev YR(X:lw)(n:Nat)(K:List Kt)(Z:Ls):Prop:=∀v0 v1 v2 v3 o0 r3 c3,c3=r3.length->run (q9 X n) K (Lq v0 v1 v2 v3 o0 r3 c3)=Z v0 v1 v2 v3 o0 r3
def vX(X:lw)(n:Nat):LB (YR X n) [0,1,0,1,1,1,1,1,1] Lr:=yp
def rW(X:lw)(n:Nat):Nat->Ls:=xb ((vX X n).1)
def Ib(X:lw){n:Nat}:rW X n (m+1)=(vX X n).1 (rW X n m):=rfl
@[go_sem]def So(X:lw)(n:Nat)(m:Nat):=yL (vX X n) (rW X n) m
def Aa(X:lw)(n:Nat):SX (q9 X n) (my 0 k7) jS 136 uf:=Al
open Go.Proofs
@[go_sem]def uF:wH:=⟨[],[],(zK::zK::zA::zA::zK::nf (nf (zA::zA::[]))),[oT jU.ku,oC [zK],oC [zK],oA ko.row],none,none⟩
@[reducible] def vc(X:lw)(n:Nat):kR Tl:=nX fB f177 n (qI fB [] [] [0,1,2,3] 4 kO k7) (cl:=ni [(122,nu [0] (lm (lA jU.ku) li) (pS 0 (Ao mb pG)) (lm (lA jU.ku) li) (sr nk pd) (fun(b:Td) a=>(l6 n) b.1 a.1))]) (rK:=qF [([0,1],uF)]) (pT:=qJ [] [0,1,2,3] 4 kO j8) (cp:=Aj [(72,lV (lN n)),(288,JP X.q8)]) (wF:=mc [72,288])
@[go_sem]abbrev uG(v0:Int)(o0:jU)(r3:List ko)(c3:Nat):jX:=⟨(.ptr 0 0::.func (.func 288) [] [.ptr 1 0,.ptr 2 0]::qA::qA::.int .i64 v0::nv (nv (qA::qA::[]))),[.cells (jU.cells o0),.cells [.mE 3 c3],.cells [.ptr 0 0],.mE false 2 (mp ko.cells r3)],4,[]⟩
abbrev uH:=Int->jU->(List ko)->Option Tl
abbrev BI(X:lw)(n:Nat)(K:List Kt)(Z:uH):Prop:=∀v0 o0 r3 c3,c3=r3.length->run (vc X n) K (uG v0 o0 r3 c3)=Z v0 o0 r3
def nI(X:lw)(n:Nat):LB (BI X n) [0,1] [.qU 0]:=yp
def oY(X:lw)(n:Nat):Nat->uH:=xb ((nI X n).1)
def tZ(X:lw){n:Nat}:oY X n (m+1)=(nI X n).1 (oY X n m):=rfl
@[go_sem]def Ax(X:lw)(n:Nat)(m:Nat):=yL (nI X n) (oY X n) m
def pF(X:lw)(n:Nat):SX (vc X n) nH kO 15 nR:=Al
open Go.Proofs
@[reducible] def rB(X:lw)(n:Nat):kR Tq:=nX fB f288 n (qI fB [] [] [0,1,2,3] 4 mz k7) (pT:=qJ [] [0,1,2,3] 4 mz j8) (co:=Mc [(281,E0 [.arg 0 []] jS (my 0 k7) jS (mH (mZ ko.row) k7) jS j8 (uf X.pQ))]) (uO:=mc [281]) (uR:=mc [])
def aMd(X:lw)(n:Nat):sP (rB X n) []=true:=jR
def aMe(X:lw)(n:Nat):Bh (rB X n) [] 1 2 0 3 1 3 2 3/\Bh (rB X n) [] 0 4 1 4 2 4 3 4:=⟨⟨jR,jR,jR,jR⟩,jR,jR,jR,jR⟩
def aMf(X:lw)(n:Nat):Mb (rB X n) [] 2 3=true/\Mb (rB X n) [] 2 4=true/\UD (rB X n) [] 2=false:=⟨jR,jR,jR⟩
attribute [go_sem] aMd aMe aMf
def x8(X:lw)(n:Nat):SX (rB X n) (my 0 (my 1 k7)) mz 6 vb:=Al
open Go.Proofs
def ld:Nat->lw
 |0=>⟨Fu.z,Fu.z,Fu.z⟩
 |n+1=>⟨(Aa (ld n) n).1,(pF (ld n) n).1,(x8 (ld n) n).1⟩
def pQ:jU->Option TB:=(ld n).pQ
def aaH{n:Nat}:pQ (n+1)=(Aa (ld n) n).1:=rfl
def lW:jU->(List ko)->Option Tl:=(ld n).lW
def CS{n:Nat}:lW (n+1)=(pF (ld n) n).1:=rfl
def q8:(List ko)->jU->Option Tq:=(ld n).q8
def aMg{n:Nat}:q8 (n+1)=(x8 (ld n) n).1:=rfl
def rX{n:Nat}:(ld n).pQ=pQ n/\(ld n).lW=lW n/\(ld n).q8=q8 n:=⟨rfl,rfl,rfl⟩
def x9:∀n:Nat,sV fB 281 (my 0 k7) jS true jS (mH (mZ ko.row) k7) jS j8 (uf (ld n).pQ)/\sV fB 177 nH kO true kO k7 kO j8 (nR (ld n).lW)/\sV fB 288 (my 0 (my 1 k7)) mz true mz k7 mz j8 (vb (ld n).q8)
 |0=>⟨fun _ _ _ h=>(by cases h),fun _ _ _ h=>(by cases h),fun _ _ _ h=>(by cases h)⟩
 |n+1=>by
  obtain⟨YS,BJ,Vu⟩:=x9 n
  exact⟨Dk (Aa (ld n) n) (gdM (jW (lD (lu (mm n))) (jW (lD (lu (uc n))) (jW (kK (fun b a r h=>(l5 n) b.1 r h)) (jW (kK (fun b a r h=>(mJ n) b.1 a.1 r h)) j9)))) ke (p:=(kz (kS (pH n)) (kz (kS (CR n)) (kz (kS (BJ)) (kz (kS (E9 n)) lT))))) (c:=(mw (Fx (N4 (yz n))) qL))) func281 ntmps281 results281,
   Dk (pF (ld n) n) (gd (jW (kK (fun b a r h=>(mJ n) b.1 a.1 r h)) j9) ke (p:=(kz (kS (mV n)) (kz (kS (Vu)) lT)))) func177 ntmps177 results177,
   Dk (x8 (ld n) n) (gd j9 ke (c:=(mw (zB (YS)) qL))) func288 ntmps288 results288⟩
def YT:sV fB 281 (my 0 k7) jS true jS (mH (mZ ko.row) k7) jS j8 (uf (pQ n)):=(x9 n).1
def VQ:sV fB 177 nH kO true kO k7 kO j8 (nR (lW n)):=(x9 n).2.1
def aow:sV fB 288 (my 0 (my 1 k7)) mz true mz k7 mz j8 (vb (q8 n)):=(x9 n).2.2
end Go.Abs
end
