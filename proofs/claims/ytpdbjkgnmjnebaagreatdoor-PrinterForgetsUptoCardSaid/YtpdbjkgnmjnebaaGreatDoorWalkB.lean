/- A part of the proof: what the functions compute. -/
import Derived.Test.YtpdbjkgnmjnebaaGreatDoorDataA
import Derived.Test.YtpdbjkgnmjnebaaGreatDoorExtA
import Derived.Test.YtpdbjkgnmjnebaaGreatDoorWalkA
import Derived.Test.YtpdbjkgnmjnebaaGreatDoorCoreD
set_option linter.all false
open Go.Proofs.Tryz renaming prog→gv
open Nat renaming reduceLeDiff→gw,reduceEqDiff→gx,reduceAdd→gz,reduceSub→gA,reduceBEq→gB,reduceMul→gC,reduceLT→gE
open Int renaming reduceToNat→gy,reduceBEq→gD,reduceLE→gF,reduceLT→gG,reduceEq→gH
open Option renaming getD_some→gI
open Go.Abs.AV renaming any→qA
noncomputable section
open Go.Proofs.Tryz
namespace Go.Abs
variable {m:Nat}{J:k9}
variable (n:Nat)
open Go.Proofs
attribute [go_sem] f207 f208 f150 f246 f88 f210 f157 f54 f10 f122 f108 f199 f164 f298 f316 f172 f263 f242 f243 f201 f202 f148 f91 f155 f152 f209 f252 f283 f286 f48 f68 f182 f109 f292 f56 f268 f235 f204 f203 f82 f93 f154 f153 f67 f26 f126 f262 f139 f151 f149 f327 f340 f326 f45 f335 f330 f339
set_option maxRecDepth 100000
set_option maxHeartbeats 4000000
@[reducible] def adZ:mg Bool:=qj gv f207 n (pR gv [.tmp 2] p8) (cl:=oN [(12,q6 oa oa p8 (strings_Contains n)),(94,rB (xM kZ.lU) (nh mG.lU) (oh n))])
def IG:SC1 (adZ n) (xM kZ.lU) 15:=mB
def yT:=fu fun n=>(IG n).1
def G9:∀n:Nat,EE gv 207 (xM kZ.lU) p8 (yT n):=GQ fun n=>F4 (IG n) (gd (k8 (ni (Gh n)) (k8 (oX (oH n)) li)) lj) func207 ntmps207 results207
def abY:Ce:=⟨[],[],(zA::zK::zK::oZ (oZ (zA::zA::zA::zK::zK::py (py (py (zA::zA::[])))))),[oC [zK,zK,zK,zK,zK,zK,zK,zK],oK,oA mJ,oA ld.row,oA Syntax.row],none,none⟩
def abZ:Ce:=⟨[],[],(zA::zK::zK::py (py (py (zK::zK::oZ (oZ (py (zA::[]))))))),[oC [zK,zK,zK,zK,zK,zT (nA Syntax.row),zK,zK],oK,oA mJ,oA ld.row],none,none⟩
@[reducible] def AO(X:Syntax->Option Syntax)(n:Nat):mg Syntax:=qj gv f208 n (pR gv [.cell 2 37] (nh Syntax.lU)) (cl:=oN [(37,DP [] vI (asT (nA mJ) MJ) (xo (oaT true mJ) vI) (rsA 0 (fun(b:Tm)=>b.1.length) KQ) (fun(b:Unit) a=>(G2 n) a.1)),(247,DP [] vI (asT (nA ld.row) MJ) (xo (oaT false ld.row) vI) (rsA 0 (fun(b:(Tj×Unit))=>b.1.length) KQ) (fun(b:Unit) a=>(Ad n) a.1)),(249,DP [] vI (asT (nA Syntax.row) MJ) (xo (oaT false Syntax.row) vI) (rsA 0 (fun(b:Tt)=>b.1.length) KQ) (fun(b:Unit) a=>(Ed n) a.1))]) (cd:=KO [(208,tV (rB (nh Syntax.lU) (nh Syntax.lU) X)),(248,tV (rB (nA lz.row) (nA lz.row) (C9 n)))]) (vc:=tK [([0,1,0,1,1,1,1,1],abY),([0,1,0,1,1,1],abZ)]) (cut:=aPo [([1,1,1,1,1,1],[3,4])]) (AI:=oR []) (AK:=oR [])
def aoh(X:Syntax->Option Syntax)(n:Nat):an1 (AO X n) [1,0,0,1,1,0,0,1,0,1,1,1] [1,0,0,1,1,0,0,1,0,1,1,1,1,1]:=⟨kX,kX⟩
def aoi(X:Syntax->Option Syntax)(n:Nat):DE (AO X n) [1,0,0,1,1,0,0,1,0,1,1,1] 1 12 4 12 6 12 8 12/\R3 (AO X n) [1,0,0,1,1,0,0,1,0,1,1,1] 10 12=true/\DE (AO X n) [1,0,0,1,1,0,0,1,0,1,1,1,1,1] 1 10 4 10 6 10 7 10/\R3 (AO X n) [1,0,0,1,1,0,0,1,0,1,1,1,1,1] 9 10=true:=⟨⟨kX,kX,kX,kX⟩,kX,⟨kX,kX,kX,kX⟩,kX⟩
attribute [go_sem] aoh aoi abY abZ
@[go_sem]abbrev ab0(v0 v1 v2:Int)(v3:lH)(v4 v5 v6:Int)(r2:List lH)(r3:List ld)(r4:List Syntax)(c2:Nat)(c3:Nat)(c4:Nat):k9:=⟨(qA::.ptr 0 0::.ptr 1 0::pg (pg (qA::qA::qA::.int .i64 v0::.int .i64 v1::pM (pM (pM (qA::qA::[])))))),[.cells [.int .i64 v2,.str (sb v3),.int .i64 v4,.nW 2 c2,.nW 3 c3,.nW 4 c4,.int .i64 v5,.int .i64 v6],.cells [.int .i64 0,.str (sb []),.int .i64 0,.mj true 0 [],.mj true 0 [],.mj true 0 [],.int .i64 0,.int .i64 0],.nW true 1 (mp mS r2),.nW false 2 (mp ld.cells r3),.nW false 8 (mp Syntax.cells r4)],0,[]⟩
abbrev ab1:=Int->Int->Int->lH->Int->Int->Int->(List lH)->Tj->(List Syntax)->Option Syntax
abbrev amI(X:Syntax->Option Syntax)(n:Nat)(K:List Kt)(Z:ab1):Prop:=∀v0 v1 v2 v3 v4 v5 v6 r2 r3 r4 c2 c3 c4,c2=r2.length->c3=r3.length->c4=r4.length->run (AO X n) K (ab0 v0 v1 v2 v3 v4 v5 v6 r2 r3 r4 c2 c3 c4)=Z v0 v1 v2 v3 v4 v5 v6 r2 r3 r4
@[go_sem]abbrev ab2(v0 v1 v2:Int)(v3:lH)(v4:Int)(v5:List Syntax)(v6 v7:Int)(r2:List lH)(r3:List ld)(c2:Nat)(c3:Nat):k9:=⟨(qA::.ptr 0 0::.ptr 1 0::pM (pM (pM (.int .i64 v0::.int .i64 v1::pg (pg (pM (qA::[]))))))),[.cells [.int .i64 v2,.str (sb v3),.int .i64 v4,.nW 2 c2,.nW 3 c3,.mj false 8 (mp Syntax.cells v5),.int .i64 v6,.int .i64 v7],.cells [.int .i64 0,.str (sb []),.int .i64 0,.mj true 0 [],.mj true 0 [],.mj true 0 [],.int .i64 0,.int .i64 0],.nW true 1 (mp mS r2),.nW false 2 (mp ld.cells r3)],0,[]⟩
abbrev ab3:=Int->Int->Int->lH->Int->(List Syntax)->Int->Int->(List lH)->Tj->Option Syntax
abbrev amJ(X:Syntax->Option Syntax)(n:Nat)(K:List Kt)(Z:ab3):Prop:=∀v0 v1 v2 v3 v4 v5 v6 v7 r2 r3 c2 c3,c2=r2.length->c3=r3.length->run (AO X n) K (ab2 v0 v1 v2 v3 v4 v5 v6 v7 r2 r3 c2 c3)=Z v0 v1 v2 v3 v4 v5 v6 v7 r2 r3
def He(X:Syntax->Option Syntax)(n:Nat):LB (amI X n) [0,1,0,1,1,1,1,1] [.wF 2,.cut [1,1,1,1,1,1],.at [1,1,1,1,1,1]]:=mB
def Hf(X:Syntax->Option Syntax)(n:Nat):Nat->ab1:=C4 ((He X n).1)
def XS(X:Syntax->Option Syntax){n:Nat}:Hf X n (m+1)=(He X n).1 (Hf X n m):=rfl
@[go_sem]def aiD(X:Syntax->Option Syntax)(n:Nat)(m:Nat):=EV (He X n) (Hf X n) m
def Hg(X:Syntax->Option Syntax)(n:Nat):LB (amJ X n) [0,1,0,1,1,1] [.wF 0,.cut [1,1,1,1],.at [1,1,1,1]]:=mB
def Hh(X:Syntax->Option Syntax)(n:Nat):Nat->ab3:=C4 ((Hg X n).1)
def XT(X:Syntax->Option Syntax){n:Nat}:Hh X n (m+1)=(Hg X n).1 (Hh X n m):=rfl
@[go_sem]def aiE(X:Syntax->Option Syntax)(n:Nat)(m:Nat):=EV (Hg X n) (Hh X n) m
def Vv(X:Syntax->Option Syntax)(n:Nat):SC1 (AO X n) (nh Syntax.lU) 54:=mB
def zY:Nat->Syntax->Option Syntax
 |0,_=>none
 |n+1,a0=>(Vv (zY n) n).1 a0
def ab4:∀n:Nat,EE gv 208 (nh Syntax.lU) (nh Syntax.lU) (zY n)
 |0=>fun _ _ h=>(by cases h)
 |n+1=>by
  have amK:=ab4 n;exact F4 (Vv (zY n) n) (gd (k8 (rR (fun b a r h=>(K9 n) a.1 r h)) (k8 (rR (fun b a r h=>(Ul n) a.1 r h)) (k8 (rR (fun b a r h=>(aax n) a.1 r h)) li))) (ot (p4 (amK)) (ot (p4 (YJ n)) lj))) func208 ntmps208 results208
@[reducible] def E7:mg (Te×(Syntax×Unit)):=qj gv f150 n (ams gv [.cell 2 37] (xo (CK kZ.lU) vI) (V0 (nh Syntax.lU) KQ) 1) (co:=Vc [(205,aeV (tV (rB (xM kZ.lU) (oe .i64) (uE n))))]) (AI:=oR [205]) (AK:=oR [])
@[go_sem]def ag4:yB (E7 n) [0,1]=true:=kX
@[go_sem]def ag5:aB1 (E7 n) [0,1] 3 7 3 9 7 9:=⟨kX,kX,kX⟩
def Lp:{B:kZ->Option (Te×(Syntax×Unit)) //∀(a0:kZ),run (E7 n) [.at []] (ini ((WK 0 MJ).enc (a0,()) ()) 12 ((xo (CK kZ.lU) vI).enc (a0,())))=B a0}:=JT
def DW:=fu fun n=>(Lp n).1
def Rk:∀(n:Nat)(a0:kZ)(r:(Te×(Syntax×Unit))),DW n a0=some r->FnG gv 150 ((WK 0 MJ).enc (a0,()) ()) ((xo (CK kZ.lU) vI).enc (a0,())) (fun o H'=>o=.ret (vJ ((V0 (nh Syntax.lU) KQ).enc r.1 r.2))/\H'=(xo (CK kZ.lU) vI).enc r.1)
 |0,_,_,h=>by cases h
 |n+1,a0,r,h=>by
  exact zy (M:=E7 n) ⟨li,lj,qW _,rX _,uh,ui,uG,(qc (Ub (p4 (wK n))) vK)⟩ func150 rfl rfl (by simp only[go_sem,gz,gA,gw,gx,gB,gC,gE,gF,gG,gy,gD,gH]) ((xo (CK kZ.lU) vI).nb _ _) ntmps150 results150 (fun J hs=>Ze hs) (((Lp n).2 a0).trans h)
@[go_sem]def Lq:Ce:=⟨[],[],(zK::zT (xM (cL lD.row))::zA::zK::py (py (py (zA::zA::zA::[])))),[oL [zA,zA,zA,zK,zA,zK,zA,zA,zA,zA,zA,zA,zA,zA,zA,zA,zA,zA,zA,zA,zA,zA,zA,zA,zA,zA,zA,zA,zA],oT Syntax.lU,oT Syntax.lU],none,none⟩
@[go_sem]def Al:=(WM 0 (nu (xM (cL lD.row)) lX))
@[go_sem]abbrev AZ(F:TF->Syntax->Syntax->Option (Tw×Unit))(b:T1c)(a:(TF×Unit)):=F a.1 b.2.1.1 b.2.2.1.1
@[go_sem]def Mg(F:TF->Syntax->Syntax->Option (Tw×Unit)):=Im [.arg 0 [],.yj 0 3 [],.yj 0 5 []] mV Al p5 lX (AZ F)
@[reducible] def Mh:mg (Tw×Unit):=qj gv f246 n (yK gv [] [] [0,1,2] 3 p5 lX) (vc:=tK [([0,1],Lq)]) (cy:=apS [(0,awg [.yj 0 3 [],.yj 0 5 []] mV xu p5 (nu p8 lX) (fun(b:T1c)(a:(Int×(lD×Unit)))=>(IA n) a.1 a.2.1 b.2.1.1 b.2.2.1.1))])
attribute [go_sem] Iz
@[go_sem]abbrev Lr(v0:List lD)(v1 j0:Int)(o1 o2:Syntax):k9:=⟨(.map 0::.pp [.mj false 9 (mp lD.cells v0)]::qA::.int .i64 v1::pM (pM (pM (qA::qA::qA::[])))),[.loop sQ [qA,qA,qA,.ptr 1 0,qA,.ptr 2 0,qA,qA,qA,qA,qA,qA,qA,qA,qA,qA,qA,qA,qA,qA,qA,qA,qA,qA,qA,qA,qA,qA,qA] (stJ sQ j0) j0,.cells (Syntax.cells o1),.cells (Syntax.cells o2)],3,[]⟩
abbrev Ls:=TF->Int->Int->Syntax->Syntax->Option (Tw×Unit)
abbrev XU(K:List Kt)(Z:Ls):Prop:=∀v0 v1 j0 o1 o2,run (Mh n) K (Lr v0 v1 j0 o1 o2)=Z v0 v1 j0 o1 o2
def wQ:LB (XU n) [0,1] [.wF 0]:=mB
def wR:Nat->Ls:=C4 ((wQ n).1)
def Jo{n:Nat}:wR n (m+1)=(wQ n).1 (wR n m):=rfl
@[go_sem]def UG(m:Nat):=EV (wQ n) (wR n) m
def EJ:SX (Mh n) Al mV 19 AZ:=mC
def Hi:=fu fun n=>(EJ n).1
def XV:∀n:Nat,AX gv 246 Al mV p5 lX (AZ (Hi n)):=Ve fun n=>GR (EJ n) (gd li lj (y:=(Pp (fun _ _ _ _ _ h=>ak0 (fun b a r h=>(YK n) a.1 a.2.1 b.2.1.1 b.2.2.1.1 r h) h) S9))) func246 ntmps246 results246
@[go_sem]def kY:=(vV (EB (V1 kZ.lU 6 lX)) Ex)
@[go_sem]abbrev Cp(F:kZ->Option TK)(b:T6)(a:Unit):=F b.1.1
@[go_sem]def ab5(F:kZ->Option TK):=Im [.arg 0 []] kY (nC 0 lX) kY (nu oa lX) (Cp F)
@[reducible] def Ol:mg TK:=qj gv f88 n (yK gv [.tmp 2] [] [0] 1 kY (nu oa lX)) (cl:=oN [(94,HJ (tV (rB (xM kZ.lU) (nh mG.lU) (oh n))))]) (AI:=oR []) (AK:=oR [])
@[go_sem]def ab6:yB (Ol n) [0,0,1,1]=true:=kX
def Hj:SX (Ol n) (nC 0 lX) kY 26 Cp:=mC
def aOF:=fu fun n=>(Hj n).1
def aaH:∀n:Nat,AX gv 88 (nC 0 lX) kY kY (nu oa lX) (Cp (aOF n)):=Ve fun n=>GR (Hj n) (gd (k8 (s9 (p4 (oH n))) li) lj) func88 ntmps88 results88
@[reducible] def ad0:mg Bool:=qj gv f210 n (pR gv [.tmp 2] p8) (cl:=oN [(94,rB (xM kZ.lU) (nh mG.lU) (oh n))])
def II:SC1 (ad0 n) (xM kZ.lU) 48:=mB
def B0:=fu fun n=>(II n).1
def Om:∀n:Nat,EE gv 210 (xM kZ.lU) p8 (B0 n):=GQ fun n=>F4 (II n) (gd (k8 (oX (oH n)) li) lj) func210 ntmps210 results210
open Go.Proofs
@[go_sem]def M5:Ce:=⟨[(6,1,true)],[],(py (zA::zT (tyF 213)::zK::oZ (py (zT (nA mG.row)::zK::zK::oZ (py (py (zA::zA::zA::[]))))))),[oT kZ.lU,oA mJ],none,none⟩
@[reducible] def Hl:mg (Te×Tm):=qj gv f157 n (ams gv [.tmp 4] (xo (CK kZ.lU) vI) (V0 (nA mJ) KQ) 1) (cl:=oN [(12,q6 oa oa p8 (strings_Contains n)),(213,q6 (nh mG.lU) oa p8 (Cm n))]) (vc:=tK [([0,1,0,1,1,1,1],M5)])
@[go_sem]abbrev M6(v0:List mG)(v1 v2:Int)(o0:kZ)(r1:List lH)(c1:Nat):k9:=⟨(pM (qA::.func (.func 213) [] []::.nW 1 c1::pg (pM (.mj false 3 (mp mG.cells v0)::.int .i64 v1::.int .i64 v2::pg (pM (pM (qA::qA::qA::[]))))))),[.cells (kZ.cells o0),.nW true 1 (mp mS r1)],1,[]⟩
abbrev M7:=(List mG)->Int->Int->kZ->(List lH)->Option (Te×Tm)
abbrev aaI(K:List Kt)(Z:M7):Prop:=∀v0 v1 v2 o0 r1 c1,c1=r1.length->run (Hl n) K (M6 v0 v1 v2 o0 r1 c1)=Z v0 v1 v2 o0 r1
def xY:LB (aaI n) [0,1,0,1,1,1,1] [.wF 0,.cut [1,1,1,1,1],.at [1,1,1,1,1]]:=mB
def ud:Nat->M7:=C4 ((xY n).1)
def Lt{n:Nat}:ud n (m+1)=(xY n).1 (ud n m):=rfl
@[go_sem]def WY(m:Nat):=EV (xY n) (ud n) m
def Ho:{B:kZ->Int->Option (Te×Tm) //∀(a0:kZ)(a1:Int),run (Hl n) [.at []] (ini ((WK 0 (asT (oe .i64) MJ)).enc (a0,()) (a1,())) 57 ((xo (CK kZ.lU) vI).enc (a0,())))=B a0 a1}:=mB
def Ef:=fu fun n=>(Ho n).1
def aaJ:∀(n:Nat)(a0:kZ)(a1:Int)(r:(Te×Tm)),Ef n a0 a1=some r->FnG gv 157 ((WK 0 (asT (oe .i64) MJ)).enc (a0,()) (a1,())) ((xo (CK kZ.lU) vI).enc (a0,())) (fun o H'=>o=.ret (vJ ((V0 (nA mJ) KQ).enc r.1 r.2))/\H'=(xo (CK kZ.lU) vI).enc r.1)
 |0,_,_,_,h=>by cases h
 |n+1,a0,a1,r,h=>by
  exact zy (M:=Hl n) ⟨(k8 (ni (Gh n)) (k8 (ni (XJ n)) li)),lj,qW _,rX _,uh,ui,uG,uw⟩ func157 rfl rfl (by simp only[go_sem,gz,gA,gw,gx,gB,gC,gE,gF,gG,gy,gD,gH]) ((xo (CK kZ.lU) vI).nb _ _) ntmps157 results157 (fun J hs=>Ze hs) (((Ho n).2 a0 a1).trans h)
@[go_sem]def IJ:Ce:=⟨[],[],(zA::zK::Ip (oZ (oZ (oZ (py (zA::zA::zA::[])))))),[oT Syntax.lU],none,none⟩
@[reducible] def sX:mg Bool:=qj gv f124 n (pR gv [.tmp 2] p8) (cl:=oN [(127,rB (oe .i64) p8 (FG n)),(181,rB (oe .i64) (oe .i64) (SI n))]) (cut:=tK [([1,1,1,1,1,1],IJ),([1,1,1,1,1],IJ),([1,1,1],IJ)])
@[go_sem]abbrev yM(o0:Syntax):k9:=⟨(qA::.ptr 0 0::Io (pg (pg (pg (pM (qA::qA::qA::[])))))),[.cells (Syntax.cells o0)],0,[]⟩
def E8:{B:Syntax->Option Bool //∀(o0:Syntax),run (sX n) [.at [1,1,1,1,1,1]] (yM o0)=B o0}:=by
 apply Subtype.mk;intro o0;simp (config:={maxSteps:=100000000}) only[go_sem,gz,gA,gw,gx,gB,gC,gE,gF,gG,gy,gD,gH,f124,gI,mixed];exact rfl
def ZC(J:k9):Option Bool:=run (sX n) [.at [1,1,1,1,1,1]] J
def MD:run (sX n) [.cut [1,1,1,1,1,1],.at [1,1,1,1,1,1]] J=((sX n).cut [1,1,1,1,1,1] J).bind (ZC n):=WJ
def Lu:∀(o0:Syntax),ZC n (yM o0)=(E8 n).1 o0:=(E8 n).2
def E9:{B:Syntax->Option Bool //∀(o0:Syntax),run (sX n) [.at [1,1,1,1,1]] (yM o0)=B o0}:=by
 apply Subtype.mk;intro o0;simp (config:={maxSteps:=100000000}) only[go_sem,gz,gA,gw,gx,gB,gC,gE,gF,gG,gy,gD,gH,f124,gI,mixed,↓MD n,Lu n];exact rfl
def ZD(J:k9):Option Bool:=run (sX n) [.at [1,1,1,1,1]] J
def Wh:run (sX n) [.cut [1,1,1,1,1],.at [1,1,1,1,1]] J=((sX n).cut [1,1,1,1,1] J).bind (ZD n):=WJ
def UH:∀(o0:Syntax),ZD n (yM o0)=(E9 n).1 o0:=(E9 n).2
def KH:{B:Syntax->Option Bool //∀(o0:Syntax),run (sX n) [.at [1,1,1]] (yM o0)=B o0}:=by
 apply Subtype.mk;intro o0;simp (config:={maxSteps:=100000000}) only[go_sem,gz,gA,gw,gx,gB,gC,gE,gF,gG,gy,gD,gH,f124,gI,mixed,↓MD n,Lu n,↓Wh n,UH n];exact rfl
def ZE(J:k9):Option Bool:=run (sX n) [.at [1,1,1]] J
def aiF:run (sX n) [.cut [1,1,1],.at [1,1,1]] J=((sX n).cut [1,1,1] J).bind (ZE n):=WJ
def ag6:∀(o0:Syntax),ZE n (yM o0)=(KH n).1 o0:=(KH n).2
def Sj:SC1 (sX n) (nh Syntax.lU) 121:=by
 apply Subtype.mk;intro a0;simp (config:={maxSteps:=100000000}) only[go_sem,gz,gA,gw,gx,gB,gC,gE,gF,gG,gy,gD,gH,f124,gI,mixed,↓MD n,Lu n,↓Wh n,UH n,↓aiF n,ag6 n];exact rfl
def P0:=fu fun n=>(Sj n).1
def alp:∀n:Nat,EE gv 124 (nh Syntax.lU) p8 (P0 n):=GQ fun n=>F4 (Sj n) (⟨(k8 (oX (Se n)) (k8 (oX (amF n)) li)),lj,qW _,qW _,uh,ui,uG,uw⟩) func124 ntmps124 results124
@[reducible] def ND:mg Syntax:=qj gv f54 n (pR gv [.cell 6 37] (nh Syntax.lU)) (cd:=KO [(52,tV (rB oa (nh Syntax.lU) (aaD n))),(53,tV (q6 (nh Syntax.lU) (nh Syntax.lU) (nh Syntax.lU) (aaE n)))]) (AI:=oR []) (AK:=oR [])
@[go_sem]def aoj:yB (ND n) [0,1]=true:=kX
@[go_sem]def aok:DE (ND n) [0,1] 0 8 1 8 2 8 4 8/\R3 (ND n) [0,1] 6 8=true:=⟨⟨kX,kX,kX,kX⟩,kX⟩
def ae5:SC4 (ND n) (nh Syntax.lU) (nh Syntax.lU) (xM (cF 53)) (xM (cF 52)) 15:=mB
def ajd:=fu fun n=>(ae5 n).1
def amL:∀n:Nat,aEy gv 54 (nh Syntax.lU) (nh Syntax.lU) (xM (cF 53)) (xM (cF 52)) (nh Syntax.lU) (ajd n):=aMd fun n=>aMc (ae5 n) (gd li (ot (p4 (abQ n)) (ot (vg (abR n)) lj))) func54 ntmps54 results54
open Go.Proofs
@[reducible] def Hp:mg Bool:=qj gv f10 n (pR gv [.tmp 4] p8) (cl:=oN [(39,q6 (nA mJ) (tyF 96) (oe .i64) (wo n))])
def uy:Vd (Hp n) (nA mJ) (tyF 96) 9:=mB
def uX:=fu fun n=>(uy n).1
def F6:∀n:Nat,AW gv 10 (nA mJ) (tyF 96) p8 (uX n):=EW fun n=>CN (uy n) (gd (k8 (ni (IC n)) li) lj) func10 ntmps10 results10
@[reducible] def IK:mg Bool:=qj gv f10 n (pR gv [.tmp 4] p8) (cl:=oN [(39,q6 (nA mJ) (tyF 121) (oe .i64) (xc n))])
def uY:Vd (IK n) (nA mJ) (tyF 121) 9:=mB
def td:=fu fun n=>(uY n).1
def HN:∀n:Nat,AW gv 10 (nA mJ) (tyF 121) p8 (td n):=EW fun n=>CN (uY n) (gd (k8 (ni (aOE n)) li) lj) func10 ntmps10 results10
@[reducible] def F7:mg Bool:=qj gv f122 n (pR gv [.tmp 4] p8) (cl:=oN [(180,q6 (nA lz.row) (tyF 123) (oe .i64) (vQ n))])
def uj:Vd (F7 n) (nA lz.row) (tyF 123) 9:=mB
def sB:=fu fun n=>(uj n).1
def FO:∀n:Nat,AW gv 122 (nA lz.row) (tyF 123) p8 (sB n):=EW fun n=>CN (uj n) (gd (k8 (ni (HM n)) li) lj) func122 ntmps122 results122
@[go_sem]def P1:Ce:=⟨[],[],(zT (xM lA.lU)::py (zK::oZ (py (py (py []))))),[],none,none⟩
@[reducible] def Rl:mg lH:=qj gv f108 n (pR gv [.tmp 4] oa) (cl:=oN [(79,q6 (nA mJ) oa p8 (qQ n)),(170,rB (oe .i64) oa (strconv_Itoa n)),(171,q6 (nA mJ) oa p8 (xX n))]) (vc:=tK [([0,0,1,1],P1)])
@[go_sem]abbrev P2(v0:lA)(v1:lH):k9:=⟨(.pp (lA.cells v0)::pM (.str (sb v1)::pg (pM (pM (pM []))))),[],0,[]⟩
abbrev P3:=lA->lH->Option lH
abbrev ad1(K:List Kt)(Z:P3):Prop:=∀v0 v1,run (Rl n) K (P2 v0 v1)=Z v0 v1
def IM:LB (ad1 n) [0,0,1,1] [.wF 0,.cut [1,1,1],.at [1,1,1]]:=mB
def IN:Nat->P3:=C4 ((IM n).1)
def arp{n:Nat}:IN n (m+1)=(IM n).1 (IN n m):=rfl
@[go_sem]def YO(m:Nat):=EV (IM n) (IN n) m
def Rm:Vd (Rl n) (xM lA.lU) (oe .i64) 34:=mB
def ME:=fu fun n=>(Rm n).1
def P4:∀n:Nat,AW gv 108 (xM lA.lU) (oe .i64) oa (ME n):=EW fun n=>CN (Rm n) (gd (k8 (ni (sw n)) (k8 (oX (Nz n)) (k8 (ni (Ks n)) li))) lj) func108 ntmps108 results108
@[go_sem]abbrev L5(F:Option ((Ta×Unit)×Unit))(b:Unit)(a:Unit):=F
@[go_sem]def Sk(F:Option ((Ta×Unit)×Unit)):=Im [] Ex lX (vV ogM Ex) (WM 0 lX) (L5 F)
@[reducible] def ab7:mg ((Ta×Unit)×Unit):=qj gv f199 n (yK gv [.tmp 0] [.arg 0 []] [] 0 (vV ogM Ex) (WM 0 lX)) (cl:=oN [(241,rB oa (ajQ 274 (xM cS)) (Zk n)),(274,Re (Wd n))]) (js:=aBN [([0,1,0,1,1],[])])
@[go_sem]def aj6:lkM (ab7 n) [0,1,0,1,1]=qu:=rfl
attribute [go_sem] C8
def ab8:SX (ab7 n) lX Ex 9 L5:=mC
def Lv:=fu fun n=>(ab8 n).1
def ZF:∀n:Nat,AX gv 199 lX Ex (vV ogM Ex) (WM 0 lX) (L5 (Lv n)):=Ve fun n=>GR (ab8 n) (gd (k8 (oX (agM n)) (k8 (nJ (adX n)) li)) lj) func199 ntmps199 results199
@[go_sem]abbrev KI(F:lO->Int->Bool->Option (Tg×Unit))(b:TT)(a:(lO×Unit)):=F a.1 b.2.1.1 b.2.2.1.1
@[go_sem]def ZG(F:lO->Int->Bool->Option (Tg×Unit)):=Im [.arg 0 [],.yj 0 3 [],.yj 0 4 []] mP (WM 0 (nu (xM lO.lU) lX)) pz lX (KI F)
@[reducible] def alq:mg (Tg×Unit):=qj gv f164 n (yK gv [] [] [0,1,2] 3 pz lX) (cl:=oN [(165,avQ (nh (cA lM.lU 5 13)) (amB n)),(166,MB (Ku n))]) (cut:=aPo [([1,1,1,1],[4])])
attribute [go_sem] BH
def ZH:SX (alq n) (WM 0 (nu (xM lO.lU) lX)) mP 10 KI:=mC
def ae6:=fu fun n=>(ZH n).1
def aj7:∀n:Nat,AX gv 164 (WM 0 (nu (xM lO.lU) lX)) mP pz lX (KI (ae6 n)):=Ve fun n=>GR (ZH n) (gd (k8 (akU (ale n)) (k8 (nJ (Up n)) li)) lj) func164 ntmps164 results164
open Go.Proofs
@[go_sem]def xy:=(nC 0 (nu (nh k7.lU) (nu (oe .i64) (nu (nh Syntax.lU) lX))))
@[go_sem]abbrev xZ(F:k7->Int->Syntax->Tb->Option T14)(b:Tv)(a:(k7×(Int×(Syntax×Unit)))):=F a.1 a.2.1 a.2.2.1 b.2.1
@[go_sem]def FP(F:k7->Int->Syntax->Tb->Option T14):=Im [.arg 0 [],.yj 0 0 []] l4 xy l4 (nu p8 lX) (xZ F)
@[go_sem]abbrev we(F:Syntax->Tb->Option TO)(b:Tv)(a:(Syntax×Unit)):=F a.1 b.2.1
@[go_sem]def WZ(F:Syntax->Tb->Option TO):=Im [.arg 0 [],.yj 0 0 []] l4 (nC 0 (nu (nh Syntax.lU) lX)) l4 (nu (oe .i64) lX) (we F)
structure pU where
 rF:k7->Int->Syntax->Tb->Option T14
 p6:Syntax->Tb->Option TO
open Go.Proofs
@[reducible] def FQ(X:pU)(n:Nat):mg T14:=qj gv f298 n (yK gv [.tmp 8] [] [0,1] 2 l4 (nu p8 lX)) (cl:=oN [(297,Ak (vE n))]) (cd:=KO [(78,tV (rB (nh k7.lU) p8 (DA n))),(140,tV (rB (nh k7.lU) p8 (BW n))),(285,tV (q6 (nh k7.lU) (oe .i64) (oe .i64) (FN n)))]) (co:=Vc [(316,K3 [.arg 0 [],.yj 0 0 []] l4 (nC 0 (nu (nh Syntax.lU) lX)) l4 (nu (oe .i64) lX) l4 (nu (oe .i64) lX) (fun(b:Tv)(a:(Syntax×Unit))=>(X.p6 a.1 b.2.1).map fun r=>(PR.ok r:PR TO TO)))]) (AI:=oR [316]) (AK:=oR [])
@[go_sem]def aaK(X:pU)(n:Nat):an1 (FQ X n) [0,0,1,1] [0,1,1,1]:=⟨kX,kX⟩
@[go_sem]def aaL(X:pU)(n:Nat):R3 (FQ X n) [0,1,1,1] 4 5=true:=kX
def BM(X:pU)(n:Nat):SX (FQ X n) xy l4 47 xZ:=Ea
open Go.Proofs
@[go_sem]def Jp:Ce:=⟨[],[],(zK::zA::zA::zK::zA::zK::oZ (oZ (py (py (zA::[]))))),[oC [zK],oM (nh k7.lU),oT Syntax.lU],none,none⟩
@[reducible] def KJ(X:pU)(n:Nat):mg TO:=qj gv f316 n (yK gv [.tmp 4] [] [0,1] 2 l4 (nu (oe .i64) lX)) (cl:=oN [(140,rB (nh k7.lU) p8 (BW n)),(285,q6 (nh k7.lU) (oe .i64) (oe .i64) (FN n)),(297,Ak (vE n)),(298,FP X.rF)]) (vc:=tK [([0,1,1],Jp)])
@[go_sem]abbrev Jq(v0:Int)(r1:List (lH×k7))(o2:Syntax):k9:=⟨(.ptr 0 0::qA::qA::.ptr 2 0::qA::.int .i64 v0::pg (pg (pM (pM (qA::[]))))),[.cells [.map 1],.map (mp (R9 (nh k7.lU)) r1),.cells (Syntax.cells o2)],2,[]⟩
abbrev Jr:=Int->Tb->Syntax->Option TO
abbrev Vw(X:pU)(n:Nat)(K:List Kt)(Z:Jr):Prop:=∀v0 r1 o2,run (KJ X n) K (Jq v0 r1 o2)=Z v0 r1 o2
def yp(X:pU)(n:Nat):LB (Vw X n) [0,1,1] [.wF 0]:=mB
def tS(X:pU)(n:Nat):Nat->Jr:=C4 ((yp X n).1)
def Sl(X:pU){n:Nat}:tS X n (m+1)=(yp X n).1 (tS X n m):=rfl
@[go_sem]def QV(X:pU)(n:Nat)(m:Nat):=EV (yp X n) (tS X n) m
def zF(X:pU)(n:Nat):SX (KJ X n) (nC 0 (nu (nh Syntax.lU) lX)) l4 47 we:=mC
open Go.Proofs
def nM:Nat->pU
 |0=>⟨Fu.z,Fu.z⟩
 |n+1=>⟨(BM (nM n) n).1,(zF (nM n) n).1⟩
def rF:k7->Int->Syntax->Tb->Option T14:=(nM n).rF
def aaM{n:Nat}:rF (n+1)=(BM (nM n) n).1:=rfl
def p6:Syntax->Tb->Option TO:=(nM n).p6
def aO4{n:Nat}:p6 (n+1)=(zF (nM n) n).1:=rfl
def EK{n:Nat}:(nM n).rF=rF n/\(nM n).p6=p6 n:=⟨rfl,rfl⟩
def DX:∀n:Nat,AX gv 298 xy l4 l4 (nu p8 lX) (xZ (nM n).rF)/\AX gv 316 (nC 0 (nu (nh Syntax.lU) lX)) l4 l4 (nu (oe .i64) lX) (we (nM n).p6)
 |0=>⟨fun _ _ _ h=>(by cases h),fun _ _ _ h=>(by cases h)⟩
 |n+1=>by
  obtain⟨YP,Vx⟩:=DX n
  exact⟨GR (BM (nM n) n) (gd (k8 (nJ (Dd n)) li) (ot (p4 (G1 n)) (ot (p4 (EY n)) (ot (vg (L4 n)) lj))) (c:=(qc (ak6 (Vx)) vK))) func298 ntmps298 results298,
   GR (zF (nM n) n) (gd (k8 (oX (EY n)) (k8 (ni (L4 n)) (k8 (nJ (Dd n)) (k8 (nJ (YP)) li)))) lj) func316 ntmps316 results316⟩
def YQ:AX gv 298 xy l4 l4 (nu p8 lX) (xZ (rF n)):=(DX n).1
def aol:AX gv 316 (nC 0 (nu (nh Syntax.lU) lX)) l4 l4 (nu (oe .i64) lX) (we (p6 n)):=(DX n).2
open Go.Proofs
@[reducible] def De:mg Bool:=qj gv f172 n (pR gv [.tmp 4] p8) (cl:=oN [(225,q6 (nA l5.row) (tyF 173) (oe .i64) (xJ n))])
def wg:Vd (De n) (nA l5.row) (tyF 173) 9:=mB
def wS:=fu fun n=>(wg n).1
def CW:∀n:Nat,AW gv 172 (nA l5.row) (tyF 173) p8 (wS n):=EW fun n=>CN (wg n) (gd (k8 (ni (DU n)) li) lj) func172 ntmps172 results172
@[reducible] def NU:mg T19:=qj gv f263 n (ams gv [.tmp 3] (xo (CK cS) vI) (V0 p8 KQ) 1) (cd:=KO [(79,tV (q6 (nA mJ) oa p8 (qQ n))),(264,tV (rB (nh nB.lU) (nA mJ) (aeY n)))]) (AI:=oR []) (AK:=oR [])
@[go_sem]def aj8:yB (NU n) [0,1]=true:=kX
def XW:{B:nB->lH->Option T19 //∀(a0:nB)(a1:lH),run (NU n) [.at []] (ini ((asT (nh nB.lU) (WK 0 MJ)).enc (a1,()) (a0,())) 8 ((xo (CK cS) vI).enc (a1,())))=B a0 a1}:=mB
def ab9:=fu fun n=>(XW n).1
def aiG:∀(n:Nat)(a0:nB)(a1:lH)(r:T19),ab9 n a0 a1=some r->FnG gv 263 ((asT (nh nB.lU) (WK 0 MJ)).enc (a1,()) (a0,())) ((xo (CK cS) vI).enc (a1,())) (fun o H'=>o=.ret (vJ ((V0 p8 KQ).enc r.1 r.2))/\H'=(xo (CK cS) vI).enc r.1)
 |0,_,_,_,h=>by cases h
 |n+1,a0,a1,r,h=>by
  exact zy (M:=NU n) ⟨li,(ot (vg (sw n)) (ot (p4 (aj0 n)) lj)),qW _,rX _,uh,ui,uG,uw⟩ func263 rfl rfl (by simp only[go_sem,gz,gA,gw,gx,gB,gC,gE,gF,gG,gy,gD,gH]) ((xo (CK cS) vI).nb _ _) ntmps263 results263 (fun J hs=>Ze hs) (((XW n).2 a0 a1).trans h)
@[go_sem]abbrev P5(F:lO->Ta->(List lH)->Option (Tf×Unit))(b:T15)(a:(lO×Unit)):=F a.1 b.2.2.2.1 b.2.2.2.2.1
@[go_sem]def ag7(F:lO->Ta->(List lH)->Option (Tf×Unit)):=Im [.arg 0 [],.yj 0 3 [],.yj 0 4 [],.yj 1 0 [],.yj 2 0 []] mH (WM 0 (nu (xM lO.lU) lX)) oz lX (P5 F)
@[reducible] def ap8:mg (Tf×Unit):=qj gv f164 n (yK gv [] [] [0,1,2,3,4] 5 oz lX) (cl:=oN [(165,avQ (nh (cA lM.lU 5 13)) (amB n)),(166,Sg (PW n))]) (cut:=aPo [([1,1,1,1],[6])])
attribute [go_sem] Aa
def ag8:SX (ap8 n) (WM 0 (nu (xM lO.lU) lX)) mH 10 P5:=mC
def alr:=fu fun n=>(ag8 n).1
def aom:∀n:Nat,AX gv 164 (WM 0 (nu (xM lO.lU) lX)) mH oz lX (P5 (alr n)):=Ve fun n=>GR (ag8 n) (gd (k8 (akU (ale n)) (k8 (nJ (ZB n)) li)) lj) func164 ntmps164 results164
@[go_sem]def Wi:Ce:=⟨[],[],(zA::zK::oZ (oZ (py (py (zA::zA::zA::zK::py (py (zA::[]))))))),[oK],none,none⟩
@[go_sem]def Wj:Ce:=⟨[],[],(zK::py (zA::zK::zA::zK::oZ (oZ (py (py (py (zA::zA::[]))))))),[oC [zA]],none,none⟩
@[reducible] def NV:mg Int:=qj gv f242 n (pR gv [.tmp 4] (oe .i64)) (cl:=oN [(276,q6 oa (oe .i32) (oe .i64) (nG n)),(277,rB (oe .i64) p8 (strings_shouldUseASCIISet n))]) (vc:=tK [([0,1,0,1,1,1,1],Wi),([0,1,0,0,1,1,0,1,0,1,1,1],Wj)])
abbrev Wk(v0 iv0:lH)(ip0:Nat):k9:=⟨(qA::.str (sb v0)::pg (pg (pM (pM (qA::qA::qA::.ptr 0 0::pM (pM (qA::[]))))))),[.iter (sb iv0) ip0],0,[]⟩
abbrev Wl:=lH->lH->Nat->Option Int
abbrev aiH(K:List Kt)(Z:Wl):Prop:=∀v0 iv0 ip0,run (NV n) K (Wk v0 iv0 ip0)=Z v0 iv0 ip0
abbrev Wm(v0:lH)(v1:Int):k9:=⟨(.str (sb v0)::pM (qA::.ptr 0 0::qA::.int .i64 v1::pg (pg (pM (pM (pM (qA::qA::[]))))))),[.cells [qA]],0,[]⟩
abbrev Wn:List Kt:=[.wF 0,.cut [1,0,1,1,0,1,0,1,1,1],.at [1,0,1,1,0,1,0,1,1,1],.cut [1,1,1,1],.at [1,1,1,1]]
abbrev Wo:=lH->Int->Option Int
abbrev aiI(K:List Kt)(Z:Wo):Prop:=∀v0 v1,run (NV n) K (Wm v0 v1)=Z v0 v1
attribute [go_sem] Wk Wm Wn
def CX:LB (aiH n) [0,1,0,1,1,1,1] [.wF 2,.cut [1,1,1,1,1],.at [1,1,1,1,1]]:=mB
def xH:Nat->Wl:=C4 ((CX n).1)
def Rn{n:Nat}:xH n (m+1)=(CX n).1 (xH n m):=rfl
@[go_sem]def ad2(m:Nat):=EV (CX n) (xH n) m
def MF:LB (aiI n) [0,1,0,0,1,1,0,1,0,1,1,1] Wn:=mB
def MG:Nat->Wo:=C4 ((MF n).1)
def auF{n:Nat}:MG n (m+1)=(MF n).1 (MG n m):=rfl
@[go_sem]def ad3(m:Nat):=EV (MF n) (MG n) m
def IO:{B:lH->lH->Option Int //∀(a0:lH)(a1:lH),run (NV n) [.at []] (ini [oa.enc a0,oa.enc a1] 55)=B a0 a1}:=mB
def strings_IndexAny:=fu fun n=>(IO n).1
def Wp:∀(n:Nat)(a0:lH)(a1:lH)(r:Int),strings_IndexAny n a0 a1=some r->N6 gv 242 [oa.enc a0,oa.enc a1] (fun v=>v=(oe .i64).enc r)
 |0,_,_,_,h=>by cases h
 |n+1,a0,a1,r,h=>by
  exact okC (((IO n).2 a0 a1).trans h) (gd (k8 (ni (UE n)) (k8 (oX (Vp n)) li)) lj) func242 ⟨oa.nb 0 _,oa.nb 0 _,trivial⟩ ntmps242 results242
@[reducible] def ad4:mg Bool:=qj gv f243 n (pR gv [.tmp 4] p8) (cl:=oN [(276,q6 oa (oe .i32) (oe .i64) (nG n))])
def P6:Vd (ad4 n) oa (oe .i32) 9:=mB
def B1:=fu fun n=>(P6 n).1
def acd:∀n:Nat,AW gv 243 oa (oe .i32) p8 (B1 n):=EW fun n=>CN (P6 n) (gd (k8 (ni (UE n)) li) lj) func243 ntmps243 results243
@[go_sem]def Ka:Ce:=⟨[],[],(zK::py (zK::Ip (oZ (py (py (py [])))))),[oC [zK,zK,zK,zK,zK],oK,oK,oK],none,none⟩
@[reducible] def Lw:mg TG:=qj gv f201 n (yK gv [.tmp 2,.tmp 3,.tmp 4] [] [0,1,2,3] 4 mw q7) (cl:=oN [(193,rB (oe .u8) (oe .i64) (HZ n)),(194,rB (oe .u8) p8 (Dc n))]) (vc:=tK [([0,0,0,0,0,0,1,1],Ka),([0,0,1,1],Ka)]) (AI:=oR []) (AK:=oR [])
@[go_sem]def ag9:an1 (Lw n) [0,0,1,0,0,1,1,1,1] [0,1,1,1]:=⟨kX,kX⟩
@[go_sem]abbrev Ro(v0:Int)(v1:lH)(v2:Int)(r1 r2 r3:List (lH×Bool)):k9:=⟨(.ptr 0 0::pM (.int .i64 v0::Io (pg (pM (pM (pM [])))))),[.cells [.str (sb v1),.int .i64 v2,.map 1,.map 2,.map 3],.map (mp K2 r1),.map (mp K2 r2),.map (mp K2 r3)],4,[]⟩
@[go_sem]abbrev Rp(m2:Nat):List Kt:=[.wF 2,.cut [1,0,0,0,0,1,1],.at [1,0,0,0,0,1,1],.wF 1,.lp m2 [0,0,1,1],.wF 0,.cut [1,1,1],.at [1,1,1]]
abbrev Eg(K:List Kt)(Z:rZ):Prop:=∀v0 v1 v2 r1 r2 r3,run (Lw n) K (Ro v0 v1 v2 r1 r2 r3)=Z v0 v1 v2 r1 r2 r3
def Be:LB2 (Eg n) [0,0,1,1] [.wF 0,.cut [1,1,1],.at [1,1,1]] (Eg n) [0,0,0,0,0,0,1,1] Rp:=mB
def xO(X2:rZ):Nat->rZ:=C4 ((Be n).1 X2)
def On{n:Nat}(X2:rZ):xO n X2 (m+1)=(Be n).1 X2 (xO n X2 m):=rfl
def aaN{m2:Nat}{X2}(h2:Eg n (.lq m2 [0,0,1,1]::[.wF 0,.cut [1,1,1],.at [1,1,1]]) X2)(m:Nat):=aB2 (Be n) h2 (xO n X2) m
def Eh:LB (Eg n) [0,0,1,1] [.wF 0,.cut [1,1,1],.at [1,1,1]]:=by
 apply Subtype.mk;intro m X0 ih v0 v1 v2 r1 r2 r3;simp (config:={maxSteps:=100000000}) only[go_sem,gz,gA,gw,gx,gB,gC,gE,gF,gG,gy,gD,gH,f201,gI,mixed,aaN n ih,ih];exact rfl
def vR:Nat->rZ:=C4 ((Eh n).1)
def ace{n:Nat}:vR n (m+1)=(Eh n).1 (vR n m):=rfl
@[go_sem]def aaO(m:Nat):=EV (Eh n) (vR n) m
def Lx:SX (Lw n) (nC 0 lX) mw 98 rE:=mC
def IP:=fu fun n=>(Lx n).1
def afF:∀n:Nat,AX gv 201 (nC 0 lX) mw mw q7 (rE (IP n)):=Ve fun n=>GR (Lx n) (gd (k8 (oX (K8 n)) (k8 (oX (Vt n)) li)) lj) func201 ntmps201 results201
open Go.Proofs
@[go_sem]def Oo:Ce:=⟨[],[],(zK::py (zK::Ip (py (py (py (zA::zA::[])))))),[oC [zK,zK,zK,zK,zK],oK,oK,oK],none,none⟩
@[reducible] def IR:mg TG:=qj gv f202 n (yK gv [.tmp 2,.tmp 3,.tmp 4] [] [0,1,2,3] 4 mw q7) (cl:=oN [(193,rB (oe .u8) (oe .i64) (HZ n)),(194,rB (oe .u8) p8 (Dc n))]) (vc:=tK [([0,0,1,1],Oo)]) (AI:=oR []) (AK:=oR [])
@[go_sem]def ad5:aHr (IR n) [0,0,1,0,0,1,1,1] [0,0,1,1,1,0,0,1,1,1] [0,1,1,0,0,1,1,1]:=⟨kX,kX,kX⟩
@[go_sem]abbrev Oq(v0:Int)(v1:lH)(v2:Int)(r1 r2 r3:List (lH×Bool)):k9:=⟨(.ptr 0 0::pM (.int .i64 v0::Io (pM (pM (pM (qA::qA::[])))))),[.cells [.str (sb v1),.int .i64 v2,.map 1,.map 2,.map 3],.map (mp K2 r1),.map (mp K2 r2),.map (mp K2 r3)],4,[]⟩
abbrev acf(K:List Kt)(Z:rZ):Prop:=∀v0 v1 v2 r1 r2 r3,run (IR n) K (Oq v0 v1 v2 r1 r2 r3)=Z v0 v1 v2 r1 r2 r3
def yU:LB (acf n) [0,0,1,1] [.wF 0,.cut [1,1,1],.at [1,1,1]]:=mB
def yV:Nat->rZ:=C4 ((yU n).1)
def Mi{n:Nat}:yV n (m+1)=(yU n).1 (yV n m):=rfl
@[go_sem]def XX(m:Nat):=EV (yU n) (yV n) m
def IS:SX (IR n) (nC 0 lX) mw 84 rE:=mC
def Fa:=fu fun n=>(IS n).1
def acg:∀n:Nat,AX gv 202 (nC 0 lX) mw mw q7 (rE (Fa n)):=Ve fun n=>GR (IS n) (gd (k8 (oX (K8 n)) (k8 (oX (Vt n)) li)) lj) func202 ntmps202 results202
@[go_sem]abbrev sM(F:Int->kZ->Option Tz)(b:T6)(a:(Int×Unit)):=F a.1 b.1.1
@[go_sem]def nP(F:Int->kZ->Option Tz):=A7 true [.arg 0 []] kY (nC 0 (nu (oe .i64) lX)) kY lX kY lr (sM F)
@[reducible] def ad6:mg Tz:=qj gv f148 n (tO gv [] [] [0] 1 kY lX) (cl:=oN [(84,HJ (tV (rB (xM kZ.lU) (oe .i64) (uc n))))]) (ua:=tP [] [0] 1 kY lr)
def IT:SX (ad6 n) (nC 0 (nu (oe .i64) lX)) kY 9 sM:=Ea
def uK:=fu fun n=>(IT n).1
def yW:∀n:Nat,wE gv 148 (nC 0 (nu (oe .i64) lX)) kY true kY lX kY lr (sM (uK n)):=adE fun n=>Iq (IT n) (gd (k8 (s9 (p4 (xN n))) li) lj) func148 ntmps148 results148
@[reducible] def ad7:mg Bool:=qj gv f91 n (pR gv [.tmp 4] p8) (cl:=oN [(85,aio (xM kZ.lU) (oe .i64) oa p8 (xd n))])
def IU:Vd (ad7 n) (xM kZ.lU) oa 8:=mB
def qZ:=fu fun n=>(IU n).1
def r9:∀n:Nat,AW gv 91 (xM kZ.lU) oa p8 (qZ n):=EW fun n=>CN (IU n) (gd (k8 (akV (CV n)) li) lj) func91 ntmps91 results91
@[go_sem]def ae7:Ce:=⟨[(5,9,true)],[],(zA::zA::zA::zK::zA::zK::zA::zA::zT (nA mJ)::zK::zK::py (py (py []))),[oT Syntax.lU,oA lD.row],none,none⟩
@[reducible] def aha:mg TF:=qj gv f155 n (pR gv [.tmp 4] (nA lD.row)) (cl:=oN [(208,rB (nh Syntax.lU) (nh Syntax.lU) (zY n))]) (vc:=tK [([0,1,0,1,1],ae7)])
@[go_sem]abbrev ae8(v0:List lH)(v1 v2:Int)(o0:Syntax)(r1:List lD)(c1:Nat):k9:=⟨(qA::qA::qA::.ptr 0 0::qA::.nW 1 c1::qA::qA::.mj false 1 (mp mS v0)::.int .i64 v1::.int .i64 v2::pM (pM (pM []))),[.cells (Syntax.cells o0),.nW true 9 (mp lD.cells r1)],0,[]⟩
abbrev ae9:=(List lH)->Int->Int->Syntax->TF->Option TF
abbrev aon(K:List Kt)(Z:ae9):Prop:=∀v0 v1 v2 o0 r1 c1,c1=r1.length->run (aha n) K (ae8 v0 v1 v2 o0 r1 c1)=Z v0 v1 v2 o0 r1
def Js:LB (aon n) [0,1,0,1,1] [.wF 0,.cut [1,1,1],.at [1,1,1]]:=mB
def Jt:Nat->ae9:=C4 ((Js n).1)
def ZI{n:Nat}:Jt n (m+1)=(Js n).1 (Jt n m):=rfl
@[go_sem]def aj9(m:Nat):=EV (Js n) (Jt n) m
def XY:Vd (aha n) (nA mJ) (nh Syntax.lU) 23:=mB
def L6:=fu fun n=>(XY n).1
def afa:∀n:Nat,AW gv 155 (nA mJ) (nh Syntax.lU) (nA lD.row) (L6 n):=EW fun n=>CN (XY n) (gd (k8 (oX (ab4 n)) li) lj) func155 ntmps155 results155
@[reducible] def aje:mg Syntax:=qj gv f152 n (pR gv [.cell 6 37] (nh Syntax.lU)) (cl:=oN [(206,rB (nA lD.row) (ajQ 246 (xM (cL lD.row))) (alT n)),(246,Mg (Hi n))]) (js:=aBN [([0,1,0,1],[])])
@[go_sem]def aoo:lkM (aje n) [0,1,0,1]=sQ:=rfl
attribute [go_sem] Iz
def aaP:SC3 (aje n) (nh Syntax.lU) (nA lD.row) (nh Syntax.lU) 29:=mB
def Ot:=fu fun n=>(aaP n).1
def XZ:∀n:Nat,awJ gv 152 (nh Syntax.lU) (nA lD.row) (nh Syntax.lU) (nh Syntax.lU) (Ot n):=aHs fun n=>aEz (aaP n) (gd (k8 (oX (aay n)) (k8 (nJ (XV n)) li)) lj) func152 ntmps152 results152
@[reducible] def M8:mg Bool:=qj gv f209 n (pR gv [.tmp 2] p8) (cl:=oN [(94,rB (xM kZ.lU) (nh mG.lU) (oh n))]) (cd:=KO [(79,tV (q6 (nA mJ) oa p8 (qQ n)))]) (AI:=oR []) (AK:=oR [])
@[go_sem]def aaQ:yB (M8 n) [0,1,1]=true:=kX
def FR:SC1 (M8 n) (xM kZ.lU) 25:=mB
def Am:=fu fun n=>(FR n).1
def Mj:∀n:Nat,EE gv 209 (xM kZ.lU) p8 (Am n):=GQ fun n=>F4 (FR n) (gd (k8 (oX (oH n)) li) (ot (vg (sw n)) lj)) func209 ntmps209 results209
open Go.Proofs
@[go_sem]def tw:=(nu (nh Syntax.lU) (nu (oe .i64) lX))
@[go_sem]abbrev tX(F:Int->(List Syntax)->Int->Int->Tb->Tb->Ta->Option Tq)(b:Tc)(a:(Int×Unit)):=F a.1 b.1.1 b.1.2.1 b.2.1.1 b.2.2.1 b.2.2.2.1 b.2.2.2.2.1
@[go_sem]def Df(F:Int->(List Syntax)->Int->Int->Tb->Tb->Ta->Option Tq):=A7 true [.arg 0 [],.yj 0 0 [],.yj 1 0 [],.yj 1 1 [],.yj 1 2 []] lK (nC 0 (nu (oe .i64) lX)) lK tw lK (nu (aag 312 agH) lX) (tX F)
@[go_sem]def wy:=(nC 0 (nu (nh k7.lU) (nu (oe .i64) (nu (aJO Syntax.row) (nu (oe .i64) lX)))))
@[go_sem]abbrev xe(F:k7->Int->(List Syntax)->Int->(List Syntax)->Int->Int->Tb->Tb->Ta->Option Tu)(b:Tc)(a:(k7×(Int×((List Syntax)×(Int×Unit))))):=F a.1 a.2.1 a.2.2.1 a.2.2.2.1 b.1.1 b.1.2.1 b.2.1.1 b.2.2.1 b.2.2.2.1 b.2.2.2.2.1
@[go_sem]def IV(F:k7->Int->(List Syntax)->Int->(List Syntax)->Int->Int->Tb->Tb->Ta->Option Tu):=A7 true [.arg 0 [],.yj 0 0 [],.yj 1 0 [],.yj 1 1 [],.yj 1 2 []] lK wy lK (nu (nh Syntax.lU) lX) lK (nu (aag 312 agH) lX) (xe F)
structure lV where
 qx:Int->(List Syntax)->Int->Int->Tb->Tb->Ta->Option Tq
 oQ:Int->(List Syntax)->Int->Int->Tb->Tb->Ta->Option Tq
 rL:k7->Int->(List Syntax)->Int->(List Syntax)->Int->Int->Tb->Tb->Ta->Option Tu
open Go.Proofs
@[go_sem]def Ou:Ce:=⟨[],[],(zK::zK::zA::zA::zK::zA::zK::zK::oZ (oZ (oZ (py (zA::zA::zA::[]))))),[oC [zK,zT (nA Syntax.row),zK],oC [zK,zK,zK,zK],oM (nh k7.lU),oM (nh k7.lU),oK,oK,oT Syntax.lU],none,none⟩
@[reducible] def P7(X:lV)(n:Nat):mg Tq:=qj gv f252 n (tO gv [.cell 4 37,.tmp 5] [] [0,1,2,3,4] 5 lK tw) (cl:=oN [(284,FJ (Ae n)),(285,q6 (nh k7.lU) (oe .i64) (oe .i64) (FN n))]) (vc:=tK [([0,1,1],Ou)]) (ua:=tP [] [0,1,2,3,4] 5 lK (nu (aag 312 agH) lX)) (cp:=DR [(283,Df X.oQ),(286,IV X.rL)]) (zV:=oR [283,286])
@[go_sem]abbrev Ov(v0 v1:Int)(v2:List Syntax)(v3 v4:Int)(r2 r3:List (lH×k7))(r4:List (lH×Bool))(o6:Syntax):k9:=⟨(.ptr 0 0::.int .i64 v0::qA::qA::.ptr 5 0::qA::.ptr 6 0::.int .i64 v1::pg (pg (pg (pM (qA::qA::qA::[]))))),[.cells [.ptr 1 0,.mj false 8 (mp Syntax.cells v2),.int .i64 v3],.cells [.map 2,.map 3,.map 4,.int .i64 v4],.map (mp (R9 (nh k7.lU)) r2),.map (mp (R9 (nh k7.lU)) r3),.map (mp K2 r4),.cells [.int .i64 0,.str (sb []),.int .i64 0,.mj true 0 [],.mj true 0 [],.mj true 0 [],.int .i64 0,.int .i64 0],.cells (Syntax.cells o6)],5,[]⟩
abbrev Ow:=Int->Int->(List Syntax)->Int->Int->Tb->Tb->Ta->Syntax->Option Tq
abbrev ach(X:lV)(n:Nat)(K:List Kt)(Z:Ow):Prop:=∀v0 v1 v2 v3 v4 r2 r3 r4 o6,run (P7 X n) K (Ov v0 v1 v2 v3 v4 r2 r3 r4 o6)=Z v0 v1 v2 v3 v4 r2 r3 r4 o6
def wz(X:lV)(n:Nat):LB (ach X n) [0,1,1] [.wF 0]:=JT
def tz(X:lV)(n:Nat):Nat->Ow:=C4 ((wz X n).1)
def EL(X:lV){n:Nat}:tz X n (m+1)=(wz X n).1 (tz X n m):=rfl
@[go_sem]def X1(X:lV)(n:Nat)(m:Nat):=EV (wz X n) (tz X n) m
def An(X:lV)(n:Nat):SX (P7 X n) (nC 0 (nu (oe .i64) lX)) lK 63 tX:=Ea
open Go.Proofs
@[reducible] def oG(X:lV)(n:Nat):mg Tq:=qj gv f283 n (tO gv [.cell 4 37,.tmp 5] [] [0,1,2,3,4] 5 lK tw) (cl:=oN [(140,rB (nh k7.lU) p8 (BW n))]) (ua:=tP [] [0,1,2,3,4] 5 lK (nu (aag 312 agH) lX)) (co:=Vc [(286,K3 [.arg 0 [],.yj 0 0 [],.yj 1 0 [],.yj 1 1 [],.yj 1 2 []] lK wy lK (nu (nh Syntax.lU) lX) lK (nu (aag 312 agH) lX) (xe X.rL))]) (cp:=DR [(286,IV X.rL)]) (zV:=oR [286]) (AI:=oR [286]) (AK:=oR [])
def YR(X:lV)(n:Nat):aEx (oG X n) [0,0,1] [0,0,1,1,1,0,0,1,1,1,1,1] [0,1,1] [0,1,1,1,1]:=⟨kX,kX,kX,kX⟩
def YS(X:lV)(n:Nat):DE (oG X n) [0,0,1,1,1,0,0,1,1,1,1,1] 1 4 3 4 1 7 3 7/\R3 (oG X n) [0,0,1,1,1,0,0,1,1,1,1,1] 4 7=true/\DE (oG X n) [0,1,1] 3 11 7 11 8 11 9 11/\R3 (oG X n) [0,1,1] 10 11=true/\DE (oG X n) [0,1,1,1,1] 3 14 6 14 8 14 9 14/\R3 (oG X n) [0,1,1,1,1] 13 14=true:=⟨⟨kX,kX,kX,kX⟩,kX,⟨kX,kX,kX,kX⟩,kX,⟨kX,kX,kX,kX⟩,kX⟩
def YT(X:lV)(n:Nat):QU (oG X n) [0,0,1,1,1,0,0,1,1,1,1,1] 4 5=false/\QU (oG X n) [0,0,1,1,1,0,0,1,1,1,1,1] 4 6=false/\QU (oG X n) [0,0,1,1,1,0,0,1,1,1,1,1] 4 7=true/\QU (oG X n) [0,0,1,1,1,0,0,1,1,1,1,1] 4 8=true/\aaa (oG X n) [0,0,1,1,1,0,0,1,1,1,1,1] 4=false:=⟨kX,kX,kX,kX,kX⟩
attribute [go_sem] YR YS YT
def sx(X:lV)(n:Nat):SX (oG X n) (nC 0 (nu (oe .i64) lX)) lK 83 tX:=Ea
open Go.Proofs
def Ox:Ce:=⟨[],[],(py (zK::py (zA::zK::zK::py (zA::zA::zK::Ip (py (zK::zK::zK::py (py (zA::zA::zA::[])))))))),[oC [zK,zT (nA Syntax.row),zK],oC [zK,zK,zK,zK],oM (nh k7.lU),oM (nh k7.lU),oK,oD,oK,oD,oA Syntax.row,oC [zK,zK,zK,zK,zK,zT (nA Syntax.row),zK,zK]],none,none⟩
def Oy:Ce:=⟨[],[],(py (zK::py (zA::zK::zK::py (zA::zA::zK::Ip (py (zL Syntax.row::zK::zK::py (py (zA::zA::zA::[])))))))),[oC [zK,zT (nA Syntax.row),zK],oC [zK,zK,zK,zK],oM (nh k7.lU),oM (nh k7.lU),oK,oD,oK,oC [zK,zK,zK,zK,zK,zT (nA Syntax.row),zK,zK]],(some 87),none⟩
def Oz:Ce:=⟨[],[],(zK::zA::zK::zK::zK::zA::zK::zA::zA::zA::zK::zK::py (py (py (zT (nA mJ)::zK::zK::Ip (py (py (zA::zA::[]))))))),[oC [zK,zT (nA Syntax.row),zK],oC [zK,zK,zK,zK],oM (nh k7.lU),oM (nh k7.lU),oK,oT k7.lU,oK,oD,oA Syntax.row],none,none⟩
def OA:Ce:=⟨[],[],(zK::zA::zK::zL Syntax.row::zK::zA::zK::zA::zA::zA::zK::zK::py (py (py (zT (nA mJ)::zK::zK::Ip (py (py (zA::zA::[]))))))),[oC [zK,zT (nA Syntax.row),zK],oC [zK,zK,zK,zK],oM (nh k7.lU),oM (nh k7.lU),oK,oT k7.lU,oK],(some 3),none⟩
@[reducible] def xf(X:lV)(n:Nat):mg Tu:=qj gv f286 n (tO gv [.cell 10 37] [] [0,1,2,3,4] 5 lK (nu (nh Syntax.lU) lX)) (cl:=oN [(284,FJ (Ae n)),(285,q6 (nh k7.lU) (oe .i64) (oe .i64) (FN n))]) (vc:=tK [([0,1,0,1,1],OA),([0,1,0,1,1],Oz),([0,1,0,1,1,1,1],Oy),([0,1,0,1,1,1,1],Ox)]) (ua:=tP [] [0,1,2,3,4] 5 lK (nu (aag 312 agH) lX)) (cp:=DR [(252,Df X.qx)]) (zV:=oR [252]) (AI:=oR []) (AK:=oR [])
def ad8(X:lV)(n:Nat):yB (xf X n) [0,1,1,1,0,0,1,1,0,0,1,0,1,1]=true:=kX
attribute [go_sem] ad8 Ox Oy Oz OA
abbrev OB(v0 v1 v2 v3:Int)(v4:List Syntax)(v5 v6:Int)(r2 r3:List (lH×k7))(r4:List (lH×Bool))(r8:List Syntax)(v11:Int)(v12:lH)(v13:List Syntax)(v14 v15:Int)(c8:Nat):k9:=⟨(pM (.int .i64 v0::pM (qA::.ptr 6 0::.int .i64 v1::pM (qA::qA::.ptr 9 0::Io (pM (.nW 8 c8::.int .i64 v2::.int .i64 v3::pM (pM (qA::qA::qA::[])))))))),[.cells [.ptr 1 0,.mj false 8 (mp Syntax.cells v4),.int .i64 v5],.cells [.map 2,.map 3,.map 4,.int .i64 v6],.map (mp (R9 (nh k7.lU)) r2),.map (mp (R9 (nh k7.lU)) r3),.map (mp K2 r4),.zU,.cells [.int .i64 0,.str (sb []),.int .i64 0,.mj true 0 [],.mj true 0 [],.mj true 0 [],.int .i64 0,.int .i64 0],.zU,.nW true 8 (mp Syntax.cells r8),.cells [.int .i64 v11,.str (sb v12),.int .i64 0,.mj true 0 [],.mj true 0 [],.mj false 8 (mp Syntax.cells v13),.int .i64 v14,.int .i64 v15]],5,[]⟩
abbrev OC:=Int->Int->Int->Int->(List Syntax)->Int->Int->Tb->Tb->Ta->(List Syntax)->Int->lH->(List Syntax)->Int->Int->Option Tu
abbrev aci(X:lV)(n:Nat)(K:List Kt)(Z:OC):Prop:=∀v0 v1 v2 v3 v4 v5 v6 r2 r3 r4 r8 v11 v12 v13 v14 v15 c8,c8=r8.length->run (xf X n) K (OB v0 v1 v2 v3 v4 v5 v6 r2 r3 r4 r8 v11 v12 v13 v14 v15 c8)=Z v0 v1 v2 v3 v4 v5 v6 r2 r3 r4 r8 v11 v12 v13 v14 v15
abbrev OD(v0 v1:Int)(v2:List Syntax)(v3 v4:Int)(v5:List Syntax)(v6 v7:Int)(r2 r3:List (lH×k7))(r4:List (lH×Bool))(v11:Int)(v12:lH)(v13:List Syntax)(v14 v15:Int):k9:=⟨(pM (.int .i64 v0::pM (qA::.ptr 6 0::.int .i64 v1::pM (qA::qA::.ptr 7 0::Io (pM (.mj true 8 (mp Syntax.cells v2)::.int .i64 v3::.int .i64 v4::pM (pM (qA::qA::qA::[])))))))),[.cells [.ptr 1 0,.mj false 8 (mp Syntax.cells v5),.int .i64 v6],.cells [.map 2,.map 3,.map 4,.int .i64 v7],.map (mp (R9 (nh k7.lU)) r2),.map (mp (R9 (nh k7.lU)) r3),.map (mp K2 r4),.zU,.cells [.int .i64 0,.str (sb []),.int .i64 0,.mj true 0 [],.mj true 0 [],.mj true 0 [],.int .i64 0,.int .i64 0],.cells [.int .i64 v11,.str (sb v12),.int .i64 0,.mj true 0 [],.mj true 0 [],.mj false 8 (mp Syntax.cells v13),.int .i64 v14,.int .i64 v15]],5,[]⟩
abbrev OE:=Int->Int->(List Syntax)->Int->Int->(List Syntax)->Int->Int->Tb->Tb->Ta->Int->lH->(List Syntax)->Int->Int->Option Tu
abbrev acj(X:lV)(n:Nat)(K:List Kt)(Z:OE):Prop:=∀v0 v1 v2 v3 v4 v5 v6 v7 r2 r3 r4 v11 v12 v13 v14 v15,run (xf X n) K (OD v0 v1 v2 v3 v4 v5 v6 v7 r2 r3 r4 v11 v12 v13 v14 v15)=Z v0 v1 v2 v3 v4 v5 v6 v7 r2 r3 r4 v11 v12 v13 v14 v15
abbrev OF(v0 v1 v2:Int)(v3:List lH)(v4 v5:Int)(v6:List Syntax)(v7 v8:Int)(r2 r3:List (lH×k7))(r4:List (lH×Bool))(o5:k7)(r8:List Syntax)(c8:Nat):k9:=⟨(.ptr 0 0::qA::.int .i64 v0::.nW 8 c8::.int .i64 v1::qA::.ptr 5 0::qA::qA::qA::.ptr 6 0::.int .i64 v2::pM (pM (pM (.mj false 1 (mp mS v3)::.int .i64 v4::.int .i64 v5::Io (pM (pM (qA::qA::[]))))))),[.cells [.ptr 1 0,.mj false 8 (mp Syntax.cells v6),.int .i64 v7],.cells [.map 2,.map 3,.map 4,.int .i64 v8],.map (mp (R9 (nh k7.lU)) r2),.map (mp (R9 (nh k7.lU)) r3),.map (mp K2 r4),.cells (k7.cells o5),.cells [.int .i64 0,.str (sb []),.int .i64 0,.mj true 0 [],.mj true 0 [],.mj true 0 [],.int .i64 0,.int .i64 0],.zU,.nW true 8 (mp Syntax.cells r8)],5,[]⟩
abbrev OH:=Int->Int->Int->(List lH)->Int->Int->(List Syntax)->Int->Int->Tb->Tb->Ta->k7->(List Syntax)->Option Tu
abbrev ack(X:lV)(n:Nat)(K:List Kt)(Z:OH):Prop:=∀v0 v1 v2 v3 v4 v5 v6 v7 v8 r2 r3 r4 o5 r8 c8,c8=r8.length->run (xf X n) K (OF v0 v1 v2 v3 v4 v5 v6 v7 v8 r2 r3 r4 o5 r8 c8)=Z v0 v1 v2 v3 v4 v5 v6 v7 v8 r2 r3 r4 o5 r8
abbrev OI(v0:Int)(v1:List Syntax)(v2 v3:Int)(v4:List lH)(v5 v6:Int)(v7:List Syntax)(v8 v9:Int)(r2 r3:List (lH×k7))(r4:List (lH×Bool))(o5:k7):k9:=⟨(.ptr 0 0::qA::.int .i64 v0::.mj true 8 (mp Syntax.cells v1)::.int .i64 v2::qA::.ptr 5 0::qA::qA::qA::.ptr 6 0::.int .i64 v3::pM (pM (pM (.mj false 1 (mp mS v4)::.int .i64 v5::.int .i64 v6::Io (pM (pM (qA::qA::[]))))))),[.cells [.ptr 1 0,.mj false 8 (mp Syntax.cells v7),.int .i64 v8],.cells [.map 2,.map 3,.map 4,.int .i64 v9],.map (mp (R9 (nh k7.lU)) r2),.map (mp (R9 (nh k7.lU)) r3),.map (mp K2 r4),.cells (k7.cells o5),.cells [.int .i64 0,.str (sb []),.int .i64 0,.mj true 0 [],.mj true 0 [],.mj true 0 [],.int .i64 0,.int .i64 0]],5,[]⟩
abbrev Cq:=Int->(List Syntax)->Int->Int->(List lH)->Int->Int->(List Syntax)->Int->Int->Tb->Tb->Ta->k7->Option Tu
abbrev Cr(X:lV)(n:Nat)(K:List Kt)(Z:Cq):Prop:=∀v0 v1 v2 v3 v4 v5 v6 v7 v8 v9 r2 r3 r4 o5,run (xf X n) K (OI v0 v1 v2 v3 v4 v5 v6 v7 v8 v9 r2 r3 r4 o5)=Z v0 v1 v2 v3 v4 v5 v6 v7 v8 v9 r2 r3 r4 o5
attribute [go_sem] OB OD OF OI
def yX(X:lV)(n:Nat):LB (aci X n) [0,1,0,1,1,1,1] [.wF 2,.cut [1,1,1,1,1],.at [1,1,1,1,1]]:=JT
def yY(X:lV)(n:Nat):Nat->OC:=C4 ((yX X n).1)
def Mk(X:lV){n:Nat}:yY X n (m+1)=(yX X n).1 (yY X n m):=rfl
@[go_sem]def X4(X:lV)(n:Nat)(m:Nat):=EV (yX X n) (yY X n) m
def yZ(X:lV)(n:Nat):LB (acj X n) [0,1,0,1,1,1,1] [.wF 2,.cut [1,1,1,1,1],.at [1,1,1,1,1]]:=JT
def y9(X:lV)(n:Nat):Nat->OE:=C4 ((yZ X n).1)
def Ml(X:lV){n:Nat}:y9 X n (m+1)=(yZ X n).1 (y9 X n m):=rfl
@[go_sem]def X5(X:lV)(n:Nat)(m:Nat):=EV (yZ X n) (y9 X n) m
def tA(X:lV)(n:Nat):LB (ack X n) [0,1,0,1,1] [.wF 0,.cut [1,1,1],.at [1,1,1]]:=JT
def Cs(X:lV)(n:Nat):Nat->OH:=C4 ((tA X n).1)
def xz(X:lV){n:Nat}:Cs X n (m+1)=(tA X n).1 (Cs X n m):=rfl
@[go_sem]def X6(X:lV)(n:Nat)(m:Nat):=EV (tA X n) (Cs X n) m
def tB(X:lV)(n:Nat):{B:Nat->Cq->Cq //∀m X0,Cr X n (.lq m [0,1,0,1,1]::[.wF 0,.cut [1,1,1],.at [1,1,1]]) X0->Cr X n (.at [0,0,1,0,1,1]::.lp m [0,1,0,1,1]::[.wF 0,.cut [1,1,1],.at [1,1,1]]) (B m X0)}:=JT
def za(X:lV)(n:Nat):Nat->Cq:=lpM fun m=>(tB X n).1 m
def xA(X:lV){n:Nat}:za X n (m+1)=(tB X n).1 m (za X n m):=rfl
@[go_sem]def X7(X:lV)(n:Nat)(m:Nat):Cr X n (.lq m [0,1,0,1,1]::[.wF 0,.cut [1,1,1],.at [1,1,1]]) (za X n m):=
 aEn (G:=fun m Z=>Cr X n (.lq m [0,1,0,1,1]::[.wF 0,.cut [1,1,1],.at [1,1,1]]) Z) (fun _ _ _ _ _ _ _ _ _ _ _ _ _ _=>SZ) (fun m _ ih v0 v1 v2 v3 v4 v5 v6 v7 v8 v9 r2 r3 r4 o5=>KZ.trans ((tB X n).2 _ _ ih v0 v1 v2 v3 v4 v5 v6 v7 v8 v9 r2 r3 r4 o5)) m
def Dg(X:lV)(n:Nat):SX (xf X n) wy lK 101 xe:=Ea
open Go.Proofs
def l8:Nat->lV
 |0=>⟨Fu.z,Fu.z,Fu.z⟩
 |n+1=>⟨(An (l8 n) n).1,(sx (l8 n) n).1,(Dg (l8 n) n).1⟩
def qx:Int->(List Syntax)->Int->Int->Tb->Tb->Ta->Option Tq:=(l8 n).qx
def P8{n:Nat}:qx (n+1)=(An (l8 n) n).1:=rfl
def oQ:Int->(List Syntax)->Int->Int->Tb->Tb->Ta->Option Tq:=(l8 n).oQ
def xB{n:Nat}:oQ (n+1)=(sx (l8 n) n).1:=rfl
def rL:k7->Int->(List Syntax)->Int->(List Syntax)->Int->Int->Tb->Tb->Ta->Option Tu:=(l8 n).rL
def ad9{n:Nat}:rL (n+1)=(Dg (l8 n) n).1:=rfl
def my{n:Nat}:(l8 n).qx=qx n/\(l8 n).oQ=oQ n/\(l8 n).rL=rL n:=⟨rfl,rfl,rfl⟩
def BN:∀n:Nat,wE gv 252 (nC 0 (nu (oe .i64) lX)) lK true lK tw lK (nu (aag 312 agH) lX) (tX (l8 n).qx)/\wE gv 283 (nC 0 (nu (oe .i64) lX)) lK true lK tw lK (nu (aag 312 agH) lX) (tX (l8 n).oQ)/\wE gv 286 wy lK true lK (nu (nh Syntax.lU) lX) lK (nu (aag 312 agH) lX) (xe (l8 n).rL)
 |0=>⟨fun _ _ _ h=>(by cases h),fun _ _ _ h=>(by cases h),fun _ _ _ h=>(by cases h)⟩
 |n+1=>by
  obtain⟨acl,X8,Hq⟩:=BN n
  exact⟨Iq (An (l8 n) n) (gd (k8 (nJ (Mf n)) (k8 (ni (L4 n)) li)) lj (p:=(lQ (mo (X8)) (lQ (mo (Hq)) nE)))) func252 ntmps252 results252,
   Iq (sx (l8 n) n) (gd (k8 (oX (EY n)) li) lj (p:=(lQ (mo (Hq)) nE)) (c:=(qc (DQ (Hq)) vK))) func283 ntmps283 results283,
   Iq (Dg (l8 n) n) (gd (k8 (nJ (Mf n)) (k8 (ni (L4 n)) li)) lj (p:=(lQ (mo (acl)) nE))) func286 ntmps286 results286⟩
def acm:wE gv 252 (nC 0 (nu (oe .i64) lX)) lK true lK tw lK (nu (aag 312 agH) lX) (tX (qx n)):=(BN n).1
def ap9:wE gv 283 (nC 0 (nu (oe .i64) lX)) lK true lK tw lK (nu (aag 312 agH) lX) (tX (oQ n)):=(BN n).2.1
def asv:wE gv 286 wy lK true lK (nu (nh Syntax.lU) lX) lK (nu (aag 312 agH) lX) (xe (rL n)):=(BN n).2.2
open Go.Proofs
@[reducible] def aop:mg Bool:=qj gv f48 n (pR gv [.tmp 4] p8) (cl:=oN [(10,q6 (nA mJ) (tyF 96) p8 (uX n))])
def Vy:Vd (aop n) (nA mJ) (oe .i64) 14:=mB
def SJ:=fu fun n=>(Vy n).1
def amM:∀n:Nat,AW gv 48 (nA mJ) (oe .i64) p8 (SJ n):=EW fun n=>CN (Vy n) (gd (k8 (ni (F6 n)) li) lj) func48 ntmps48 results48
@[go_sem]def ahb:Ce:=⟨[],[],(zA::zK::zK::zA::zA::zA::zK::oZ (oZ (oZ (py (py (py (zA::zA::[]))))))),[oT Syntax.lU],none,none⟩
@[go_sem]def ahc:Ce:=⟨[],[],(zA::zK::zK::zA::zA::zK::oZ (oZ (oZ (py (py (py (zA::zA::zA::[]))))))),[oT Syntax.lU],none,none⟩
@[reducible] def aaR(X:Syntax->Int->Option Int)(n:Nat):mg Int:=qj gv f68 n (pR gv [.tmp 4] (oe .i64)) (cl:=oN [(10,q6 (nA mJ) (tyF 121) p8 (td n)),(68,q6 (nh Syntax.lU) (oe .i64) (oe .i64) X),(122,q6 (nA lz.row) (tyF 123) p8 (sB n))]) (vc:=tK [([0,1,0,1,1,1,1],ahb),([0,1,0,1,1,1],ahc)])
@[go_sem]abbrev ahd(v0 v1:Int)(o0:Syntax):k9:=⟨(qA::.int .i64 v0::.ptr 0 0::qA::qA::qA::.int .i64 v1::pg (pg (pg (pM (pM (pM (qA::qA::[]))))))),[.cells (Syntax.cells o0)],0,[]⟩
abbrev P9:=Int->Int->Syntax->Option Int
abbrev aqa(X:Syntax->Int->Option Int)(n:Nat)(K:List Kt)(Z:P9):Prop:=∀v0 v1 o0,run (aaR X n) K (ahd v0 v1 o0)=Z v0 v1 o0
@[go_sem]abbrev ahe(v0 v1:Int)(o0:Syntax):k9:=⟨(qA::.int .i64 v0::.ptr 0 0::qA::qA::.int .i64 v1::pg (pg (pg (pM (pM (pM (qA::qA::qA::[]))))))),[.cells (Syntax.cells o0)],0,[]⟩
abbrev aqb(X:Syntax->Int->Option Int)(n:Nat)(K:List Kt)(Z:P9):Prop:=∀v0 v1 o0,run (aaR X n) K (ahe v0 v1 o0)=Z v0 v1 o0
def Ly(X:Syntax->Int->Option Int)(n:Nat):LB (aqa X n) [0,1,0,1,1,1,1] [.wF 2,.cut [1,1,1,1,1],.at [1,1,1,1,1]]:=mB
def Hr(X:Syntax->Int->Option Int)(n:Nat):Nat->P9:=C4 ((Ly X n).1)
def acn(X:Syntax->Int->Option Int){n:Nat}:Hr X n (m+1)=(Ly X n).1 (Hr X n m):=rfl
@[go_sem]def als(X:Syntax->Int->Option Int)(n:Nat)(m:Nat):=EV (Ly X n) (Hr X n) m
def Lz(X:Syntax->Int->Option Int)(n:Nat):LB (aqb X n) [0,1,0,1,1,1] [.wF 0,.cut [1,1,1,1],.at [1,1,1,1]]:=mB
def LA(X:Syntax->Int->Option Int)(n:Nat):Nat->P9:=C4 ((Lz X n).1)
def aco(X:Syntax->Int->Option Int){n:Nat}:LA X n (m+1)=(Lz X n).1 (LA X n m):=rfl
@[go_sem]def alt(X:Syntax->Int->Option Int)(n:Nat)(m:Nat):=EV (Lz X n) (LA X n) m
def aaS(X:Syntax->Int->Option Int)(n:Nat):Vd (aaR X n) (nh Syntax.lU) (oe .i64) 69:=mB
def B2:Nat->Syntax->Int->Option Int
 |0,_,_=>none
 |n+1,a0,a1=>(aaS (B2 n) n).1 a0 a1
def ahf:∀n:Nat,AW gv 68 (nh Syntax.lU) (oe .i64) (oe .i64) (B2 n)
 |0=>fun _ _ _ h=>(by cases h)
 |n+1=>by
  have aqc:=ahf n;exact CN (aaS (B2 n) n) (gd (k8 (ni (HN n)) (k8 (ni (aqc)) (k8 (ni (FO n)) li))) lj) func68 ntmps68 results68
@[reducible] def aoq:mg Bool:=qj gv f182 n (pR gv [.tmp 2] p8) (cl:=oN [(199,Sk (Lv n))])
def Vz:SC1 (aoq n) oa 6:=mB
def M9:=fu fun n=>(Vz n).1
def acp:∀n:Nat,EE gv 182 oa p8 (M9 n):=GQ fun n=>F4 (Vz n) (gd (k8 (nJ (ZF n)) li) lj) func182 ntmps182 results182
@[reducible] def ajf:mg Bool:=qj gv f109 n (pR gv [.cell 4 4] p8) (cl:=oN [(103,rB (nh lO.lU) (ajQ 164 (xM lO.lU)) (ajW n)),(164,ZG (ae6 n))]) (js:=aBN [([0,1,0,1,1],[(1,.ret)])])
@[go_sem]def aor:lkM (ajf n) [0,1,0,1,1]=qh:=rfl
attribute [go_sem] BH
def ajg:Vd (ajf n) (nh lO.lU) (oe .i64) 30:=mB
def anx:=fu fun n=>(ajg n).1
def aqd:∀n:Nat,AW gv 109 (nh lO.lU) (oe .i64) p8 (anx n):=EW fun n=>CN (ajg n) (gd (k8 (oX (ai6 n)) (k8 (nJ (aj7 n)) li)) lj) func109 ntmps109 results109
@[go_sem]def AP:Ce:=⟨[],[],(zT (nA nB.row)::zK::py (zA::zK::zK::py (py (zA::zA::[])))),[oC [zK]],none,none⟩
@[go_sem]def oU:=(nu (nA nB.row) (alF 263 (vlP 0 vlN) lX))
@[go_sem]abbrev tf(F:(List nB)->lH->Option T1e)(b:TL)(a:((List nB)×(Unit×Unit))):=F a.1 b.1.1
@[go_sem]def Bf(F:(List nB)->lH->Option T1e):=Im [.arg 1 [0]] (vV (EB (V1 cS 1 lX)) Ex) oU (vV (EB (V1 cS 1 lX)) Ex) (nu (oe .i64) lX) (tf F)
@[reducible] def Bg:mg T1e:=qj gv f292 n (yK gv [.tmp 4] [] [0] 1 (vV (EB (V1 cS 1 lX)) Ex) (nu (oe .i64) lX)) (cl:=oN [(263,DP [1] (xo (CK cS) vI) (asT (nh nB.lU) (WK 0 MJ)) (xo (CK cS) vI) (V0 p8 KQ) (fun(b:(lH×Unit)) a=>(ab9 n) a.1 b.1))]) (vc:=tK [([0,1,0,1],AP)])
@[go_sem]abbrev AQ(v0:List nB)(v1 v2:Int)(v3:lH):k9:=⟨(.mj false 23 (mp nB.cells v0)::.func (.func 263) [] [.ptr 0 0]::pM (qA::.int .i64 v1::.int .i64 v2::pM (pM (qA::qA::[])))),[.cells [.str (sb v3)]],1,[]⟩
abbrev AR:=(List nB)->Int->Int->lH->Option T1e
abbrev Ju(K:List Kt)(Z:AR):Prop:=∀v0 v1 v2 v3,run (Bg n) K (AQ v0 v1 v2 v3)=Z v0 v1 v2 v3
def vk:LB (Ju n) [0,1,0,1] [.wF 0,.cut [1,1],.at [1,1]]:=mB
def vl:Nat->AR:=C4 ((vk n).1)
def ac9{n:Nat}:vl n (m+1)=(vk n).1 (vl n m):=rfl
@[go_sem]def Hs(m:Nat):=EV (vk n) (vl n) m
def Bh:SX (Bg n) oU (vV (EB (V1 cS 1 lX)) Ex) 19 tf:=mC
def B3:=fu fun n=>(Bh n).1
def Jv:∀n:Nat,AX gv 292 oU (vV (EB (V1 cS 1 lX)) Ex) (vV (EB (V1 cS 1 lX)) Ex) (nu (oe .i64) lX) (tf (B3 n)):=Ve fun n=>GR (Bh n) (gd (k8 (rR (fun b a r h=>(aiG n) a.1 b.1 r h)) li) lj) func292 ntmps292 results292
@[reducible] def aaT:mg (List lH):=qj gv f56 n (pR gv [.tmp 2] (nA mJ)) (cl:=oN [(103,rB (nh lO.lU) (ajQ 164 (xM lO.lU)) (ajW n)),(164,ag7 (alr n))]) (cut:=aG6 [] [([1,1,1],[(3,0,1)])]) (js:=aBN [([0,1,0,1,1,1],[])])
@[go_sem]def aos:lkM (aaT n) [0,1,0,1,1,1]=pS:=rfl
attribute [go_sem] Aa
def ajh:{B:lO->Option (List lH) //∀(a0:lO),run (aaT n) [.at []] (ini [(nh lO.lU).enc a0] 31)=B a0}:=mB
def anz:=fu fun n=>(ajh n).1
def aqe:∀(n:Nat)(a0:lO)(r:(List lH)),anz n a0=some r->N6 gv 56 [(nh lO.lU).enc a0] (fun v=>v=(nA mJ).enc r)
 |0,_,_,h=>by cases h
 |n+1,a0,r,h=>by
  exact akR (M:=aaT n) ⟨(k8 (oX (ai6 n)) (k8 (nJ (aom n)) li)),lj,qW _,aG7 [] [([1,1,1],[(3,0,1)])],uh,ui,uG,uw⟩ func56 rfl rfl ⟨(nh lO.lU).nb 0 _,trivial⟩ ntmps56 results56 (fun J hs=>aic (P:=gv) (rs:=[.tmp 2]) (t:=(nA mJ)) (J:=J) (r:=r) hs) (((ajh n).2 a0).trans h)
open Go.Proofs
@[go_sem]def Mm:Ce:=⟨[],[],(zK::zK::py (zA::zK::zT (nA Syntax.row)::oZ (zA::zA::zT (nA mJ)::zK::zK::oZ (py (py (py (zA::zA::zA::[]))))))),[oC [zK],oA Syntax.row,oM (nh k7.lU),oD,oT k7.lU],none,none⟩
@[go_sem]def A2:=(nC 0 (alA 1 (nu (nh Syntax.lU) lX)))
@[go_sem]def tM:=(vV (EB (WM 2 lX)) (vV (ogA true Syntax.row) (vV (an0 (nh k7.lU)) Ex)))
@[go_sem]abbrev BO(F:Syntax->(List Syntax)->Tb->Option Tp)(b:(Unit×((List Syntax)×(Tb×Unit))))(a:(Syntax×Unit)):=F a.1 b.2.1 b.2.2.1
@[go_sem]def FS(F:Syntax->(List Syntax)->Tb->Option Tp):=Im [.arg 0 [],.arg 1 [],.yj 0 0 []] tM A2 tM (alA 1 lX) (BO F)
@[reducible] def Na(X:Syntax->(List Syntax)->Tb->Option Tp)(n:Nat):mg Tp:=qj gv f268 n (yK gv [.tmp 6] [] [0,1,2] 3 tM (alA 1 lX)) (cl:=oN [(268,apL 1 true 8 (FS X)),(297,Ak (vE n)),(298,FP (rF n))]) (vc:=tK [([0,1,0,1,1,1],Mm)])
@[go_sem]abbrev Mn(v0:List Syntax)(v1:List lH)(v2 v3:Int)(r1:List Syntax)(r2:List (lH×k7))(o4:k7)(c1:Nat):k9:=⟨(.ptr 0 0::.nW 1 c1::pM (qA::.ptr 4 0::.mj false 8 (mp Syntax.cells v0)::pg (qA::qA::.mj false 1 (mp mS v1)::.int .i64 v2::.int .i64 v3::pg (pM (pM (pM (qA::qA::qA::[]))))))),[.cells [.map 2],.nW true 8 (mp Syntax.cells r1),.map (mp (R9 (nh k7.lU)) r2),.zU,.cells (k7.cells o4)],3,[]⟩
abbrev Mo:=(List Syntax)->(List lH)->Int->Int->(List Syntax)->Tb->k7->Option Tp
abbrev YU(X:Syntax->(List Syntax)->Tb->Option Tp)(n:Nat)(K:List Kt)(Z:Mo):Prop:=∀v0 v1 v2 v3 r1 r2 o4 c1,c1=r1.length->run (Na X n) K (Mn v0 v1 v2 v3 r1 r2 o4 c1)=Z v0 v1 v2 v3 r1 r2 o4
def tN(X:Syntax->(List Syntax)->Tb->Option Tp)(n:Nat):LB (YU X n) [0,1,0,1,1,1] [.wF 0,.cut [1,1,1,1],.at [1,1,1,1]]:=mB
def xC(X:Syntax->(List Syntax)->Tb->Option Tp)(n:Nat):Nat->Mo:=C4 ((tN X n).1)
def zG(X:Syntax->(List Syntax)->Tb->Option Tp){n:Nat}:xC X n (m+1)=(tN X n).1 (xC X n m):=rfl
@[go_sem]def VA(X:Syntax->(List Syntax)->Tb->Option Tp)(n:Nat)(m:Nat):=EV (tN X n) (xC X n) m
def BP(X:Syntax->(List Syntax)->Tb->Option Tp)(n:Nat):SX (Na X n) A2 tM 61 BO:=mC
def sN:Nat->Syntax->(List Syntax)->Tb->Option Tp
 |0,_,_,_=>none
 |n+1,a0,o0,o1=>(BP (sN n) n).1 a0 o0 o1
def Mp:∀n:Nat,AX gv 268 A2 tM tM (alA 1 lX) (BO (sN n))
 |0=>fun _ _ _ h=>(by cases h)
 |n+1=>by
  have YV:=Mp n;exact GR (BP (sN n) n) (gd (k8 (akX (nJ (YV))) (k8 (nJ (Dd n)) (k8 (nJ (YQ n)) li))) lj) func268 ntmps268 results268
@[reducible] def afG:mg Bool:=qj gv f235 n (pR gv [.tmp 4] p8) (cl:=oN [(242,R7 (q6 oa oa (oe .i64) (vX n)) (q6 oa oa (oe .i64) (strings_IndexAny n)))])
def Kb:Vd (afG n) oa oa 9:=mB
def strings_ContainsAny:=fu fun n=>(Kb n).1
def aea:∀n:Nat,AW gv 235 oa oa p8 (strings_ContainsAny n):=EW fun n=>CN (Kb n) (gd (k8 (R8 (ni (Uc n)) (ni (Wp n))) li) lj) func235 ntmps235 results235
@[go_sem]def Rq:Ce:=⟨[],[],(zK::oZ (oZ (oZ (py (zA::zA::[]))))),[oC [zK,zK,zK,zK,zK],oK,oK,oK],none,none⟩
@[go_sem]abbrev Fb(F:lH->Int->Ta->Ta->Ta->Option (To×Unit))(b:To)(a:Unit):=F b.1.1 b.1.2.1 b.2.1 b.2.2.1 b.2.2.2.1
@[go_sem]def UI(F:lH->Int->Ta->Ta->Ta->Option (To×Unit)):=Im [.arg 0 [],.yj 0 2 [],.yj 0 3 [],.yj 0 4 []] mw (nC 0 lX) mw lX (Fb F)
@[reducible] def LC:mg (To×Unit):=qj gv f204 n (yK gv [] [] [0,1,2,3] 4 mw lX) (cl:=oN [(243,q6 oa (oe .i32) p8 (B1 n)),(244,q6 oa oa p8 (KG n)),(245,q6 oa oa (ty3 oa oa p8) (strings_Cut n))]) (vc:=tK [([0],Rq)]) (AI:=oR []) (AK:=oR [])
@[go_sem]def ahg:an1 (LC n) [0,0,0,0] [0,0,1,0,0]:=⟨kX,kX⟩
@[go_sem]abbrev Rr(v0:lH)(v1:Int)(r1 r2 r3:List (lH×Bool)):k9:=⟨(.ptr 0 0::pg (pg (pg (pM (qA::qA::[]))))),[.cells [.str (sb v0),.int .i64 v1,.map 1,.map 2,.map 3],.map (mp K2 r1),.map (mp K2 r2),.map (mp K2 r3)],4,[]⟩
abbrev Rs:=lH->Int->Ta->Ta->Ta->Option (To×Unit)
abbrev afH(K:List Kt)(Z:Rs):Prop:=∀v0 v1 r1 r2 r3,run (LC n) K (Rr v0 v1 r1 r2 r3)=Z v0 v1 r1 r2 r3
def Ei:LB (afH n) [0] [.wF 0]:=mB
def Ej:Nat->Rs:=C4 ((Ei n).1)
def acq{n:Nat}:Ej n (m+1)=(Ei n).1 (Ej n m):=rfl
@[go_sem]def aaU(m:Nat):=EV (Ei n) (Ej n) m
def LD:SX (LC n) (nC 0 lX) mw 55 Fb:=mC
def Bw:=fu fun n=>(LD n).1
def afI:∀n:Nat,AX gv 204 (nC 0 lX) mw mw lX (Fb (Bw n)):=Ve fun n=>GR (LD n) (gd (k8 (ni (acd n)) (k8 (ni (ag1 n)) (k8 (ni (ap5 n)) li))) lj) func204 ntmps204 results204
@[reducible] def Qa:mg TG:=qj gv f203 n (yK gv [.tmp 2,.tmp 3,.tmp 4] [] [0,1,2,3] 4 mw q7) (cd:=KO [(242,tV (R7 (q6 oa oa (oe .i64) (vX n)) (q6 oa oa (oe .i64) (strings_IndexAny n))))]) (AI:=oR []) (AK:=oR [])
@[go_sem]def aeb:aEx (Qa n) [0,0,1,0,1,1] [0,0,1,1] [0,1] [0,1,1,1]:=⟨kX,kX,kX,kX⟩
def IW:SX (Qa n) (nC 0 lX) mw 45 rE:=mC
def Fc:=fu fun n=>(IW n).1
def acr:∀n:Nat,AX gv 203 (nC 0 lX) mw mw q7 (rE (Fc n)):=Ve fun n=>GR (IW n) (gd li (ot (azh (vg (Uc n)) (vg (Wp n))) lj)) func203 ntmps203 results203
@[reducible] def ahh:mg Tz:=qj gv f82 n (tO gv [] [] [0] 1 kY lX) (ua:=tP [] [0] 1 kY lr) (cp:=DR [(148,nP (uK n))]) (zV:=oR [148])
def LF:SX (ahh n) (nC 0 (nu (oe .i64) lX)) kY 8 sM:=Ea
def pO:=fu fun n=>(LF n).1
def pV:∀n:Nat,wE gv 82 (nC 0 (nu (oe .i64) lX)) kY true kY lX kY lr (sM (pO n)):=adE fun n=>Iq (LF n) (gd li lj (p:=(lQ (mo (yW n)) nE))) func82 ntmps82 results82
@[go_sem]abbrev uZ(F:Bool->kZ->Option Tz)(b:T6)(a:(Bool×Unit)):=F a.1 b.1.1
@[go_sem]def u6(F:Bool->kZ->Option Tz):=A7 true [.arg 0 []] kY (nC 0 (nu p8 lX)) kY lX kY lr (uZ F)
@[reducible] def aec:mg Tz:=qj gv f93 n (tO gv [] [] [0] 1 kY lX) (ua:=tP [] [0] 1 kY lr) (cp:=DR [(148,nP (uK n))]) (zV:=oR [148])
def IY:SX (aec n) (nC 0 (nu p8 lX)) kY 8 uZ:=Ea
def q4:=fu fun n=>(IY n).1
def si:∀n:Nat,wE gv 93 (nC 0 (nu p8 lX)) kY true kY lX kY lr (uZ (q4 n)):=adE fun n=>Iq (IY n) (gd li lj (p:=(lQ (mo (yW n)) nE))) func93 ntmps93 results93
open Go.Proofs
@[reducible] def X9:mg Bool:=qj gv f154 n (pR gv [.tmp 2] p8) (cl:=oN [(91,q6 (xM kZ.lU) oa p8 (qZ n)),(207,rB (xM kZ.lU) p8 (yT n))])
def DY:SC1 (X9 n) (xM kZ.lU) 9:=mB
def vF:=fu fun n=>(DY n).1
def Dh:∀n:Nat,EE gv 154 (xM kZ.lU) p8 (vF n):=GQ fun n=>F4 (DY n) (gd (k8 (ni (r9 n)) (k8 (oX (G9 n)) li)) lj) func154 ntmps154 results154
@[reducible] def Qb:mg (Te×(Bool×Unit)):=qj gv f153 n (ams gv [.tmp 4] (xo (CK kZ.lU) vI) (V0 p8 KQ) 1) (cl:=oN [(88,DP [0] (xo (CK kZ.lU) vI) (WK 0 MJ) (xo (CK kZ.lU) vI) (V0 oa KQ) (fun(b:Te) a=>(nV n) b.1)),(91,HJ (tV (q6 (xM kZ.lU) oa p8 (qZ n))))])
def IZ:{B:kZ->lH->Option (Te×(Bool×Unit)) //∀(a0:kZ)(a1:lH),run (Qb n) [.at []] (ini ((WK 0 (asT oa MJ)).enc (a0,()) (a1,())) 13 ((xo (CK kZ.lU) vI).enc (a0,())))=B a0 a1}:=mB
def oB:=fu fun n=>(IZ n).1
def pJ:∀(n:Nat)(a0:kZ)(a1:lH)(r:(Te×(Bool×Unit))),oB n a0 a1=some r->FnG gv 153 ((WK 0 (asT oa MJ)).enc (a0,()) (a1,())) ((xo (CK kZ.lU) vI).enc (a0,())) (fun o H'=>o=.ret (vJ ((V0 p8 KQ).enc r.1 r.2))/\H'=(xo (CK kZ.lU) vI).enc r.1)
 |0,_,_,_,h=>by cases h
 |n+1,a0,a1,r,h=>by
  exact zy (M:=Qb n) ⟨(k8 (rR (fun b a r h=>(nZ n) b.1 r h)) (k8 (s9 (vg (r9 n))) li)),lj,qW _,rX _,uh,ui,uG,uw⟩ func153 rfl rfl (by simp only[go_sem,gz,gA,gw,gx,gB,gC,gE,gF,gG,gy,gD,gH]) ((xo (CK kZ.lU) vI).nb _ _) ntmps153 results153 (fun J hs=>Ze hs) (((IZ n).2 a0 a1).trans h)
open Go.Proofs
@[reducible] def aot:mg Bool:=qj gv f67 n (pR gv [.tmp 2] p8) (cl:=oN [(48,q6 (nA mJ) (oe .i64) p8 (SJ n))])
def VB:SC1 (aot n) (nh k7.lU) 13:=mB
def aaV:=fu fun n=>(VB n).1
def amN:∀n:Nat,EE gv 67 (nh k7.lU) p8 (aaV n):=GQ fun n=>F4 (VB n) (gd (k8 (ni (amM n)) li) lj) func67 ntmps67 results67
@[reducible] def arq:mg Bool:=qj gv f26 n (pR gv [.tmp 4] p8) (cl:=oN [(68,q6 (nh Syntax.lU) (oe .i64) (oe .i64) (B2 n))])
def aaW:Vd (arq n) (nh Syntax.lU) (oe .i64) 9:=mB
def ahj:=fu fun n=>(aaW n).1
def aqf:∀n:Nat,AW gv 26 (nh Syntax.lU) (oe .i64) p8 (ahj n):=EW fun n=>CN (aaW n) (gd (k8 (ni (ahf n)) li) lj) func26 ntmps26 results26
@[reducible] def Sm:mg Bool:=qj gv f126 n (pR gv [.tmp 4] p8) (cl:=oN [(141,rB oa p8 (Sf n)),(171,q6 (nA mJ) oa p8 (xX n)),(182,rB oa p8 (M9 n))])
def Bx:Vd (Sm n) (nA mJ) oa 22:=mB
def su:=fu fun n=>(Bx n).1
def wG:∀n:Nat,AW gv 126 (nA mJ) oa p8 (su n):=EW fun n=>CN (Bx n) (gd (k8 (oX (adV n)) (k8 (ni (Ks n)) (k8 (oX (acp n)) li))) lj) func126 ntmps126 results126
@[go_sem]abbrev sC(F:(List nB)->lH->Option (TL×(Bool×Unit)))(b:TL)(a:((List nB)×(Unit×Unit))):=F a.1 b.1.1
@[go_sem]def zO(F:(List nB)->lH->Option (TL×(Bool×Unit))):=Im [.arg 1 [0]] (vV (EB (V1 cS 1 lX)) Ex) oU (vV (EB (V1 cS 1 lX)) Ex) (nu p8 lX) (sC F)
@[reducible] def HO:mg (TL×(Bool×Unit)):=qj gv f262 n (yK gv [.tmp 4] [] [0] 1 (vV (EB (V1 cS 1 lX)) Ex) (nu p8 lX)) (cl:=oN [(292,Bf (B3 n))])
def zP:SX (HO n) oU (vV (EB (V1 cS 1 lX)) Ex) 9 sC:=mC
def AS:=fu fun n=>(zP n).1
def Ht:∀n:Nat,AX gv 262 oU (vV (EB (V1 cS 1 lX)) Ex) (vV (EB (V1 cS 1 lX)) Ex) (nu p8 lX) (sC (AS n)):=Ve fun n=>GR (zP n) (gd (k8 (nJ (Jv n)) li) lj) func262 ntmps262 results262
def afb:Ce:=⟨[],[],(zK::oZ (oZ (oZ (zA::zA::zT (nA mJ)::zK::zK::py (py (zA::[])))))),[],none,none⟩
def afc:Ce:=⟨[],[],(zK::oZ (py (py (py (zA::zA::zA::zK::zK::oZ (py (py (py (zA::[]))))))))),[],none,none⟩
def afd:Ce:=⟨[],[],(zK::py (py (py (zA::zK::zK::oZ (oZ (py (py (py (zA::zA::zA::[]))))))))),[],none,none⟩
@[reducible] def Qc:mg Bool:=qj gv f139 n (pR gv [.tmp 2] p8) (cl:=oN [(12,q6 oa oa p8 (strings_Contains n)),(182,rB oa p8 (M9 n)),(193,rB (oe .u8) (oe .i64) (HZ n)),(194,rB (oe .u8) p8 (Dc n)),(195,avQ (nA mJ) (Ur n))]) (vc:=tK [([0,1,0,1,1,1,1,1],afb),([0,1,0,1,1,1],afc),([0,1,0,0,1,0,1,1],afd)])
attribute [go_sem] afb afc afd
abbrev afe(v0:lH)(v1:List lH)(v2 v3:Int):k9:=⟨(.str (sb v0)::pg (pg (pg (qA::qA::.mj false 1 (mp mS v1)::.int .i64 v2::.int .i64 v3::pM (pM (qA::[])))))),[],0,[]⟩
abbrev aff:=lH->(List lH)->Int->Int->Option Bool
abbrev aou(K:List Kt)(Z:aff):Prop:=∀v0 v1 v2 v3,run (Qc n) K (afe v0 v1 v2 v3)=Z v0 v1 v2 v3
abbrev afg(v0:lH)(v1 v2:Int):k9:=⟨(.str (sb v0)::pg (pM (pM (pM (qA::qA::qA::.int .i64 v1::.int .i64 v2::pg (pM (pM (pM (qA::[]))))))))),[],0,[]⟩
abbrev NE:=lH->Int->Int->Option Bool
abbrev aov(K:List Kt)(Z:NE):Prop:=∀v0 v1 v2,run (Qc n) K (afg v0 v1 v2)=Z v0 v1 v2
abbrev afh(v0:lH)(v1 v2:Int):k9:=⟨(.str (sb v0)::pM (pM (pM (qA::.int .i64 v1::.int .i64 v2::pg (pg (pM (pM (pM (qA::qA::qA::[]))))))))),[],0,[]⟩
abbrev afi:List Kt:=[.wF 0,.cut [1,0,1,0,1,1],.at [1,0,1,0,1,1],.cut [1,1,1],.at [1,1,1]]
abbrev aow(K:List Kt)(Z:NE):Prop:=∀v0 v1 v2,run (Qc n) K (afh v0 v1 v2)=Z v0 v1 v2
attribute [go_sem] afe afg afh afi
def Jw:LB (aou n) [0,1,0,1,1,1,1,1] [.wF 4,.cut [1,1,1,1,1,1],.at [1,1,1,1,1,1]]:=mB
def EP:Nat->aff:=C4 ((Jw n).1)
def ZJ{n:Nat}:EP n (m+1)=(Jw n).1 (EP n m):=rfl
@[go_sem]def aka(m:Nat):=EV (Jw n) (EP n) m
def Jx:LB (aov n) [0,1,0,1,1,1] [.wF 2,.cut [1,1,1,1],.at [1,1,1,1]]:=mB
def Jy:Nat->NE:=C4 ((Jx n).1)
def ZK{n:Nat}:Jy n (m+1)=(Jx n).1 (Jy n m):=rfl
@[go_sem]def akb(m:Nat):=EV (Jx n) (Jy n) m
def Jz:LB (aow n) [0,1,0,0,1,0,1,1] afi:=mB
def JA:Nat->NE:=C4 ((Jz n).1)
def ZL{n:Nat}:JA n (m+1)=(Jz n).1 (JA n m):=rfl
@[go_sem]def akc(m:Nat):=EV (Jz n) (JA n) m
def Ya:SC1 (Qc n) oa 63:=mB
def Qd:=fu fun n=>(Ya n).1
def afj:∀n:Nat,EE gv 139 oa p8 (Qd n):=GQ fun n=>F4 (Ya n) (gd (k8 (ni (Gh n)) (k8 (oX (acp n)) (k8 (oX (K8 n)) (k8 (oX (Vt n)) (k8 (akU (agY n)) li))))) lj) func139 ntmps139 results139
@[go_sem]abbrev Fe(F:lH->kZ->Option Tz)(b:T6)(a:(lH×Unit)):=F a.1 b.1.1
@[go_sem]def rM(F:lH->kZ->Option Tz):=A7 true [.arg 0 []] kY (nC 0 (nu oa lX)) kY lX kY lr (Fe F)
@[reducible] def ahk:mg Tz:=qj gv f151 n (tO gv [] [] [0] 1 kY lX) (cl:=oN [(85,HJ (tV (aio (xM kZ.lU) (oe .i64) oa p8 (xd n)))),(88,DP [0] (xo (CK kZ.lU) vI) (WK 0 MJ) (xo (CK kZ.lU) vI) (V0 oa KQ) (fun(b:Te) a=>(nV n) b.1)),(91,HJ (tV (q6 (xM kZ.lU) oa p8 (qZ n))))]) (ua:=tP [] [0] 1 kY lr) (cp:=DR [(93,u6 (q4 n))]) (zV:=oR [93])
def LG:SX (ahk n) (nC 0 (nu oa lX)) kY 16 Fe:=Ea
def qn:=fu fun n=>(LG n).1
def so:∀n:Nat,wE gv 151 (nC 0 (nu oa lX)) kY true kY lX kY lr (Fe (qn n)):=adE fun n=>Iq (LG n) (gd (k8 (s9 (abA (CV n))) (k8 (rR (fun b a r h=>(nZ n) b.1 r h)) (k8 (s9 (vg (r9 n))) li))) lj (p:=(lQ (mo (si n)) nE))) func151 ntmps151 results151
open Go.Proofs
@[go_sem]abbrev sR(F:kZ->Option (PR TK (T6×T9)))(b:T6)(a:Unit):=F b.1.1
@[go_sem]def qM(F:kZ->Option (PR TK (T6×T9))):=A7 true [.arg 0 []] kY (nC 0 lX) kY (nu oa lX) kY lr (sR F)
@[reducible] def aaX:mg (PR TK (T6×T9)):=qj gv f149 n (tO gv [.tmp 2] [] [0] 1 kY (nu oa lX)) (cl:=oN [(88,DP [0] (xo (CK kZ.lU) vI) (WK 0 MJ) (xo (CK kZ.lU) vI) (V0 oa KQ) (fun(b:Te) a=>(nV n) b.1)),(154,HJ (tV (rB (xM kZ.lU) p8 (vF n))))]) (ua:=tP [] [0] 1 kY lr) (cp:=DR [(93,u6 (q4 n))]) (zV:=oR [93])
def FT:SX (aaX n) (nC 0 lX) kY 9 sR:=Ea
def tY:=fu fun n=>(FT n).1
def xD:∀n:Nat,wE gv 149 (nC 0 lX) kY true kY (nu oa lX) kY lr (sR (tY n)):=adE fun n=>Iq (FT n) (gd (k8 (rR (fun b a r h=>(nZ n) b.1 r h)) (k8 (s9 (p4 (Dh n))) li)) lj (p:=(lQ (mo (si n)) nE))) func149 ntmps149 results149
@[go_sem]abbrev Di(F:kZ->Option T17)(b:T6)(a:Unit):=F b.1.1
@[go_sem]def Dj(F:kZ->Option T17):=A7 true [.arg 0 []] kY (nC 0 lX) kY (nu (oe .i64) lX) kY lr (Di F)
@[reducible] def aed:mg T17:=qj gv f327 n (tO gv [.tmp 2] [] [0] 1 kY (nu (oe .i64) lX)) (cl:=oN [(88,DP [0] (xo (CK kZ.lU) vI) (WK 0 MJ) (xo (CK kZ.lU) vI) (V0 oa KQ) (fun(b:Te) a=>(nV n) b.1)),(94,HJ (tV (rB (xM kZ.lU) (nh mG.lU) (oh n)))),(333,rB oa (ty2 (oe .i64) aEs) (strconv_Atoi n))]) (ua:=tP [] [0] 1 kY lr) (cp:=DR [(93,u6 (q4 n))]) (zV:=oR [93])
def I0:SX (aed n) (nC 0 lX) kY 18 Di:=Ea
def uL:=fu fun n=>(I0 n).1
def Hu:∀n:Nat,wE gv 327 (nC 0 lX) kY true kY (nu (oe .i64) lX) kY lr (Di (uL n)):=adE fun n=>Iq (I0 n) (gd (k8 (rR (fun b a r h=>(nZ n) b.1 r h)) (k8 (s9 (p4 (oH n))) (k8 (oX (an2 n)) li))) lj (p:=(lQ (mo (si n)) nE))) func327 ntmps327 results327
@[reducible] def Yb:mg (PR TK (T6×T9)):=qj gv f340 n (tO gv [.tmp 2] [] [0] 1 kY (nu oa lX)) (cl:=oN [(88,DP [0] (xo (CK kZ.lU) vI) (WK 0 MJ) (xo (CK kZ.lU) vI) (V0 oa KQ) (fun(b:Te) a=>(nV n) b.1)),(207,HJ (tV (rB (xM kZ.lU) p8 (yT n))))]) (ua:=tP [] [0] 1 kY lr) (cp:=DR [(93,u6 (q4 n))]) (zV:=oR [93])
def DZ:SX (Yb n) (nC 0 lX) kY 9 sR:=Ea
def vG:=fu fun n=>(DZ n).1
def KK:∀n:Nat,wE gv 340 (nC 0 lX) kY true kY (nu oa lX) kY lr (sR (vG n)):=adE fun n=>Iq (DZ n) (gd (k8 (rR (fun b a r h=>(nZ n) b.1 r h)) (k8 (s9 (p4 (G9 n))) li)) lj (p:=(lQ (mo (si n)) nE))) func340 ntmps340 results340
@[reducible] def ahl:mg (PR TK (T6×T9)):=qj gv f326 n (tO gv [.tmp 2] [] [0] 1 kY (nu oa lX)) (cl:=oN [(88,DP [0] (xo (CK kZ.lU) vI) (WK 0 MJ) (xo (CK kZ.lU) vI) (V0 oa KQ) (fun(b:Te) a=>(nV n) b.1)),(94,HJ (tV (rB (xM kZ.lU) (nh mG.lU) (oh n))))]) (ua:=tP [] [0] 1 kY lr) (cp:=DR [(93,u6 (q4 n))]) (zV:=oR [93])
def LH:SX (ahl n) (nC 0 lX) kY 11 sR:=Ea
def D0:=fu fun n=>(LH n).1
def Rt:∀n:Nat,wE gv 326 (nC 0 lX) kY true kY (nu oa lX) kY lr (sR (D0 n)):=adE fun n=>Iq (LH n) (gd (k8 (rR (fun b a r h=>(nZ n) b.1 r h)) (k8 (s9 (p4 (oH n))) li)) lj (p:=(lQ (mo (si n)) nE))) func326 ntmps326 results326
@[go_sem]abbrev Dk(F:kZ->Option Tz)(b:T6)(a:Unit):=F b.1.1
@[go_sem]def Qe(F:kZ->Option Tz):=A7 true [.arg 0 []] kY (nC 0 lX) kY lX kY lr (Dk F)
@[reducible] def Dl:mg Tz:=qj gv f45 n (tO gv [] [] [0] 1 kY lX) (ua:=tP [] [0] 1 kY lr) (co:=Vc [(93,K3 [.arg 0 []] kY (nC 0 (nu p8 lX)) kY lX kY lr (uZ (q4 n))),(94,aeV (tV (rB (xM kZ.lU) (nh mG.lU) (oh n))))]) (AI:=oR [93,94]) (AK:=oR [])
def aee:yB (Dl n) []=true:=kX
def aef:R3 (Dl n) [] 6 9=true:=kX
def aeg:aaa (Dl n) [] 9=true:=kX
attribute [go_sem] aee aef aeg
def I1:SX (Dl n) (nC 0 lX) kY 12 Dk:=Ea
def Ff:=fu fun n=>(I1 n).1
def acs:∀n:Nat,wE gv 45 (nC 0 lX) kY true kY lX kY lr (Dk (Ff n)):=adE fun n=>Iq (I1 n) (gd li lj (c:=(qc (DQ (si n)) (qc (Ub (p4 (oH n))) vK)))) func45 ntmps45 results45
open Go.Proofs
@[go_sem]abbrev xP(F:kZ->Option TB)(b:T6)(a:Unit):=F b.1.1
@[go_sem]def Ru(F:kZ->Option TB):=A7 true [.arg 0 []] kY (nC 0 lX) kY (nu (nA lz.row) lX) kY lr (xP F)
@[go_sem]def ql:=(nC 0 (alF 339 (vlP 1 (vlP 2 vlN)) lX))
@[go_sem]def mh:=(vV (EB (V1 kZ.lU 6 lX)) (vV (EB (alA 3 lX)) (vV (EB (nC 0 lX)) (vV (ogA false lz.row) Ex))))
@[go_sem]abbrev qy(F:kZ->(List lz)->Option Tl)(b:(Te×(Unit×(Unit×((List lz)×Unit)))))(a:(Unit×Unit)):=F b.1.1 b.2.2.2.1
@[go_sem]def zb(F:kZ->(List lz)->Option Tl):=A7 true [.arg 0 [],.arg 1 [0],.arg 1 [1],.yj 1 0 []] mh ql mh lX mh lr (qy F)
@[go_sem]def pd:=(vV (EB (alA 2 lX)) (vV (EB (nC 3 lX)) (vV (ogA false lz.row) (vV (EB (V1 kZ.lU 6 lX)) Ex))))
@[go_sem]abbrev zc(F:(List lz)->kZ->Option Ts)(b:(Unit×(Unit×((List lz)×T6))))(a:Unit):=F b.2.2.1 b.2.2.2.1.1
@[go_sem]def OJ(F:(List lz)->kZ->Option Ts):=A7 true [.arg 0 [],.arg 1 [],.yj 0 0 [],.yj 1 0 []] pd (nC 0 (nC 1 lX)) pd lX pd lr (zc F)
structure mW where
 sH:kZ->Option TB
 nQ:kZ->(List lz)->Option Tl
 uo:(List lz)->kZ->Option Ts
open Go.Proofs
def Qf:Ce:=⟨[],[],(zA::zA::zA::zK::zK::zK::Ip (oZ (oZ (py (py (zA::zA::zK::zK::oZ (py (zA::zA::[])))))))),[oT kZ.lU,oD,oC [zK],oA lz.row],none,none⟩
@[reducible] def uq(X:mW)(n:Nat):mg TB:=qj gv f335 n (tO gv [.tmp 2] [] [0] 1 kY (nu (nA lz.row) lX)) (cl:=oN [(84,HJ (tV (rB (xM kZ.lU) (oe .i64) (uc n)))),(88,DP [0] (xo (CK kZ.lU) vI) (WK 0 MJ) (xo (CK kZ.lU) vI) (V0 oa KQ) (fun(b:Te) a=>(nV n) b.1)),(94,HJ (tV (rB (xM kZ.lU) (nh mG.lU) (oh n)))),(153,DP [0] (xo (CK kZ.lU) vI) (WK 0 (asT oa MJ)) (xo (CK kZ.lU) vI) (V0 p8 KQ) (fun(b:Te) a=>(oB n) b.1 a.1))]) (vc:=tK [([0,1,0,1,1,1,1,1,1],Qf)]) (cut:=ap1 [([1,0,1,0,1,1,1],[3]),([1,1,1,1,1,1,1,1],[3])] [([1,1,0,1,1,1,0,0,1,1],2,0,2,false)]) (ua:=tP [] [0] 1 kY lr) (co:=Vc [(85,aeV (tV (aio (xM kZ.lU) (oe .i64) oa p8 (xd n))))]) (cp:=DR [(151,rM (qn n)),(327,Dj (uL n)),(330,zb X.nQ),(340,qM (vG n))]) (zV:=oR [151,327,330,340]) (AI:=oR [85]) (AK:=oR [])
def afJ(X:mW)(n:Nat):yB (uq X n) [0,1,1,0,0,1,1]=true:=kX
def afK(X:mW)(n:Nat):DE (uq X n) [0,1,1,0,0,1,1] 0 3 3 5 3 9 3 11/\DE (uq X n) [0,1,1,0,0,1,1] 3 15 3 16 3 20 3 24/\DE (uq X n) [0,1,1,0,0,1,1] 3 25 3 29 3 31 3 33/\DE (uq X n) [0,1,1,0,0,1,1] 3 37 3 41 3 42 3 46/\atS (uq X n) [0,1,1,0,0,1,1] 3 48 3 50:=⟨⟨kX,kX,kX,kX⟩,⟨kX,kX,kX,kX⟩,⟨kX,kX,kX,kX⟩,⟨kX,kX,kX,kX⟩,kX,kX⟩
attribute [go_sem] afJ afK Qf
@[go_sem]abbrev Qg(v0 v1 v2 v3:Int)(o0:kZ)(r3:List lz)(c3:Nat):k9:=⟨(qA::qA::qA::.ptr 2 0::.int .i64 v0::.int .i64 v1::Io (pg (pg (pM (pM (qA::qA::.int .i64 v2::.int .i64 v3::pg (pM (qA::qA::[])))))))),[.cells (kZ.cells o0),.zU,.cells [.nW 3 c3],.nW false 2 (mp lz.cells r3)],1,[]⟩
@[go_sem]abbrev Qh:List Kt:=[.wF 1,.cut [1,1,1,1,1,1,1],.at [1,1,1,1,1,1,1]]
abbrev Qi:=Int->Int->Int->Int->kZ->(List lz)->Option TB
abbrev aeh(X:mW)(n:Nat)(K:List Kt)(Z:Qi):Prop:=∀v0 v1 v2 v3 o0 r3 c3,c3=r3.length->run (uq X n) K (Qg v0 v1 v2 v3 o0 r3 c3)=Z v0 v1 v2 v3 o0 r3
def Ao(X:mW)(n:Nat):LB (aeh X n) [0,1,0,1,1,1,1,1,1] Qh:=JT
def xg(X:mW)(n:Nat):Nat->Qi:=C4 ((Ao X n).1)
def Nb(X:mW){n:Nat}:xg X n (m+1)=(Ao X n).1 (xg X n m):=rfl
@[go_sem]def YW(X:mW)(n:Nat)(m:Nat):=EV (Ao X n) (xg X n) m
def Ek(X:mW)(n:Nat):SX (uq X n) (nC 0 lX) kY 136 xP:=Ea
open Go.Proofs
@[go_sem]def yD:Ce:=⟨[],[],(zK::zK::zA::zA::zK::py (py (zA::zA::[]))),[oT kZ.lU,oC [zK],oC [zK],oA lz.row],none,none⟩
@[reducible] def zd(X:mW)(n:Nat):mg Tl:=qj gv f330 n (tO gv [] [] [0,1,2,3] 4 mh lX) (cl:=oN [(153,DP [0] (xo (CK kZ.lU) vI) (WK 0 (asT oa MJ)) (xo (CK kZ.lU) vI) (V0 p8 KQ) (fun(b:Te) a=>(oB n) b.1 a.1))]) (vc:=tK [([0,1],yD)]) (ua:=tP [] [0,1,2,3] 4 mh lr) (cp:=DR [(82,nP (pO n)),(339,OJ X.uo)]) (zV:=oR [82,339])
@[go_sem]abbrev yE(v0:Int)(o0:kZ)(r3:List lz)(c3:Nat):k9:=⟨(.ptr 0 0::.func (.func 339) [] [.ptr 1 0,.ptr 2 0]::qA::qA::.int .i64 v0::pM (pM (qA::qA::[]))),[.cells (kZ.cells o0),.cells [.nW 3 c3],.cells [.ptr 0 0],.nW false 2 (mp lz.cells r3)],4,[]⟩
abbrev yF:=Int->kZ->(List lz)->Option Tl
abbrev F8(X:mW)(n:Nat)(K:List Kt)(Z:yF):Prop:=∀v0 o0 r3 c3,c3=r3.length->run (zd X n) K (yE v0 o0 r3 c3)=Z v0 o0 r3
def rS(X:mW)(n:Nat):LB (F8 X n) [0,1] [.wF 0]:=JT
def qm(X:mW)(n:Nat):Nat->yF:=C4 ((rS X n).1)
def Fg(X:mW){n:Nat}:qm X n (m+1)=(rS X n).1 (qm X n m):=rfl
@[go_sem]def EM(X:mW)(n:Nat)(m:Nat):=EV (rS X n) (qm X n) m
def sj(X:mW)(n:Nat):SX (zd X n) ql mh 15 qy:=Ea
open Go.Proofs
@[reducible] def uz(X:mW)(n:Nat):mg Ts:=qj gv f339 n (tO gv [] [] [0,1,2,3] 4 pd lX) (ua:=tP [] [0,1,2,3] 4 pd lr) (co:=Vc [(335,K3 [.arg 0 []] kY (nC 0 lX) kY (nu (nA lz.row) lX) kY lr (xP X.sH))]) (AI:=oR [335]) (AK:=oR [])
def acu(X:mW)(n:Nat):yB (uz X n) []=true:=kX
def acv(X:mW)(n:Nat):DE (uz X n) [] 1 2 0 3 1 3 2 3/\DE (uz X n) [] 0 4 1 4 2 4 3 4:=⟨⟨kX,kX,kX,kX⟩,kX,kX,kX,kX⟩
def acw(X:mW)(n:Nat):QU (uz X n) [] 2 3=true/\QU (uz X n) [] 2 4=true/\aaa (uz X n) [] 2=false:=⟨kX,kX,kX⟩
attribute [go_sem] acu acv acw
def Ct(X:mW)(n:Nat):SX (uz X n) (nC 0 (nC 1 lX)) pd 6 zc:=Ea
open Go.Proofs
def mO:Nat->mW
 |0=>⟨Fu.z,Fu.z,Fu.z⟩
 |n+1=>⟨(Ek (mO n) n).1,(sj (mO n) n).1,(Ct (mO n) n).1⟩
def sH:kZ->Option TB:=(mO n).sH
def afL{n:Nat}:sH (n+1)=(Ek (mO n) n).1:=rfl
def nQ:kZ->(List lz)->Option Tl:=(mO n).nQ
def Hv{n:Nat}:nQ (n+1)=(sj (mO n) n).1:=rfl
def uo:(List lz)->kZ->Option Ts:=(mO n).uo
def acy{n:Nat}:uo (n+1)=(Ct (mO n) n).1:=rfl
def xh{n:Nat}:(mO n).sH=sH n/\(mO n).nQ=nQ n/\(mO n).uo=uo n:=⟨rfl,rfl,rfl⟩
def Cu:∀n:Nat,wE gv 335 (nC 0 lX) kY true kY (nu (nA lz.row) lX) kY lr (xP (mO n).sH)/\wE gv 330 ql mh true mh lX mh lr (qy (mO n).nQ)/\wE gv 339 (nC 0 (nC 1 lX)) pd true pd lX pd lr (zc (mO n).uo)
 |0=>⟨fun _ _ _ h=>(by cases h),fun _ _ _ h=>(by cases h),fun _ _ _ h=>(by cases h)⟩
 |n+1=>by
  obtain⟨aei,F9,aaY⟩:=Cu n
  exact⟨Iq (Ek (mO n) n) (gdM (k8 (s9 (p4 (xN n))) (k8 (rR (fun b a r h=>(nZ n) b.1 r h)) (k8 (s9 (p4 (oH n))) (k8 (rR (fun b a r h=>(pJ n) b.1 a.1 r h)) li)))) lj (p:=(lQ (mo (so n)) (lQ (mo (Hu n)) (lQ (mo (F9)) (lQ (mo (KK n)) nE))))) (c:=(qc (Ub (abA (CV n))) vK))) func335 ntmps335 results335,
   Iq (sj (mO n) n) (gd (k8 (rR (fun b a r h=>(pJ n) b.1 a.1 r h)) li) lj (p:=(lQ (mo (pV n)) (lQ (mo (aaY)) nE)))) func330 ntmps330 results330,
   Iq (Ct (mO n) n) (gd li lj (c:=(qc (DQ (aei)) vK))) func339 ntmps339 results339⟩
def aej:wE gv 335 (nC 0 lX) kY true kY (nu (nA lz.row) lX) kY lr (xP (sH n)):=(Cu n).1
def abn:wE gv 330 ql mh true mh lX mh lr (qy (nQ n)):=(Cu n).2.1
def ars:wE gv 339 (nC 0 (nC 1 lX)) pd true pd lX pd lr (zc (uo n)):=(Cu n).2.2
end Go.Abs
end
