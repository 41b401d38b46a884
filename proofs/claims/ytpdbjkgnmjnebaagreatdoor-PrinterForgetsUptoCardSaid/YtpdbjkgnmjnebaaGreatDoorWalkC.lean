/- A part of the proof: what the functions compute. -/
import Derived.Test.YtpdbjkgnmjnebaaGreatDoorDataA
import Derived.Test.YtpdbjkgnmjnebaaGreatDoorExtA
import Derived.Test.YtpdbjkgnmjnebaaGreatDoorWalkA
import Derived.Test.YtpdbjkgnmjnebaaGreatDoorWalkB
import Derived.Test.YtpdbjkgnmjnebaaGreatDoorCoreD
set_option linter.all false
open Go.Proofs.Tryz renaming prog→gJ
open Nat renaming reduceLeDiff→gK,reduceEqDiff→gL,reduceAdd→gO,reduceSub→gP,reduceBEq→gQ,reduceMul→gR,reduceLT→gT
open Int renaming reduceToNat→gM,reduceBEq→gS,reduceLE→gU,reduceLT→gV,reduceEq→gW
open Option renaming getD_some→gN
open Subtype renaming mk→gX
open Go.Abs.AV renaming any→qA
noncomputable section
open Go.Proofs.Tryz
namespace Go.Abs
variable {l m:Nat}{o:Op}{x:adF}{J:k9}
variable (n:Nat)
open Go.Proofs
attribute [go_sem] f74 f168 f221 f76 f147 f30 f106 f110 f169 f222 f36 f81 f332 f125 f128 f25 f259 f35 f43 f331 f328 f9 f232 f330 f212 f39 f107 f69 f188 f325 f10 f71 f132 f133 f134 f189 f233 f269 f299 f44 f86
set_option maxRecDepth 100000
set_option maxHeartbeats 4000000
@[go_sem]def Ap:Ce:=⟨[],[],(zT (nA k7.row)::zT (tyF 67)::py (zA::zK::zK::py (py (zA::zA::[])))),[],none,none⟩
@[reducible] def AT:mg Int:=qj gJ f74 n (pR gJ [.tmp 4] (oe .i64)) (cl:=oN [(67,rB (nh k7.lU) p8 (aaV n))]) (vc:=tK [([0,1,0,1],Ap)])
@[go_sem]abbrev Aq(v0:List k7)(v1 v2:Int):k9:=⟨(.mj false 4 (mp k7.cells v0)::.func (.func 67) [] []::pM (qA::.int .i64 v1::.int .i64 v2::pM (pM (qA::qA::[])))),[],0,[]⟩
abbrev Ar:=(List k7)->Int->Int->Option Int
abbrev I2(K:List Kt)(Z:Ar):Prop:=∀v0 v1 v2,run (AT n) K (Aq v0 v1 v2)=Z v0 v1 v2
def qR:LB (I2 n) [0,1,0,1] [.wF 0,.cut [1,1],.at [1,1]]:=mB
def qS:Nat->Ar:=C4 ((qR n).1)
def ze{n:Nat}:qS n (m+1)=(qR n).1 (qS n m):=rfl
@[go_sem]def Ga(m:Nat):=EV (qR n) (qS n) m
def vm:Vd (AT n) (nA k7.row) (tyF 67) 19:=mB
def wv:=fu fun n=>(vm n).1
def I3:∀n:Nat,AW gJ 74 (nA k7.row) (tyF 67) (oe .i64) (wv n):=EW fun n=>CN (vm n) (gd (k8 (oX (amN n)) li) lj) func74 ntmps74 results74
@[reducible] def aO5:mg Bool:=qj gJ f168 n (pR gJ [.tmp 4] p8) (cl:=oN [(12,q6 oa oa p8 (strings_Contains n)),(126,q6 (nA mJ) oa p8 (su n))])
def Dm:Vd (aO5 n) (nA mJ) oa 13:=mB
def sA:=fu fun n=>(Dm n).1
def vn:∀n:Nat,AW gJ 168 (nA mJ) oa p8 (sA n):=EW fun n=>CN (Dm n) (gd (k8 (ni (Gh n)) (k8 (ni (wG n)) li)) lj) func168 ntmps168 results168
@[reducible] def amO:mg Bool:=qj gJ f221 n (pR gJ [.tmp 4] p8) (cl:=oN [(262,zO (AS n))]) (cut:=aPo [([1,1],[1])])
def acz:Vd (amO n) (nh mm.lU) oa 9:=mB
def LI:=fu fun n=>(acz n).1
def Qj:∀n:Nat,AW gJ 221 (nh mm.lU) oa p8 (LI n):=EW fun n=>CN (acz n) (gd (k8 (nJ (Ht n)) li) lj) func221 ntmps221 results221
@[go_sem]def ZM:Ce:=⟨[],[],(zA::zK::oZ (oZ (py (py (zA::zA::zA::zT (nA mJ)::zK::zK::oZ (oZ (py (py (zA::zA::[]))))))))),[oT k7.lU],none,none⟩
@[go_sem]def ZN:Ce:=⟨[],[],(zA::zK::zA::zK::py (py (py (zA::zA::zA::zT (nA mJ)::zK::zK::Ip (py []))))),[oT k7.lU],none,none⟩
@[reducible] def Sn:mg Int:=qj gJ f76 n (pR gJ [.tmp 2] (oe .i64)) (cl:=oN [(78,rB (nh k7.lU) p8 (DA n)),(139,rB oa p8 (Qd n)),(140,rB (nh k7.lU) p8 (BW n)),(141,rB oa p8 (Sf n))]) (vc:=tK [([0,1,0,1,1,1,1,1],ZM),([0,1,0,1,1,1],ZN)])
@[go_sem]abbrev ZP(v0:List lH)(v1 v2:Int)(o0:k7):k9:=⟨(qA::.ptr 0 0::pg (pg (pM (pM (qA::qA::qA::.mj false 1 (mp mS v0)::.int .i64 v1::.int .i64 v2::pg (pg (pM (pM (qA::qA::[]))))))))),[.cells (k7.cells o0)],0,[]⟩
abbrev ZQ:=(List lH)->Int->Int->k7->Option Int
abbrev alu(K:List Kt)(Z:ZQ):Prop:=∀v0 v1 v2 o0,run (Sn n) K (ZP v0 v1 v2 o0)=Z v0 v1 v2 o0
@[go_sem]abbrev ZR(v0:Int)(v1:List lH)(v2 v3:Int)(o0:k7):k9:=⟨(qA::.ptr 0 0::qA::.int .i64 v0::pM (pM (pM (qA::qA::qA::.mj false 1 (mp mS v1)::.int .i64 v2::.int .i64 v3::Io (pM []))))),[.cells (k7.cells o0)],0,[]⟩
abbrev ZS:=Int->(List lH)->Int->Int->k7->Option Int
abbrev alv(K:List Kt)(Z:ZS):Prop:=∀v0 v1 v2 v3 o0,run (Sn n) K (ZR v0 v1 v2 v3 o0)=Z v0 v1 v2 v3 o0
def Fh:LB (alu n) [0,1,0,1,1,1,1,1] [.wF 2,.cut [1,1,1,1,1,1],.at [1,1,1,1,1,1]]:=mB
def Cv:Nat->ZQ:=C4 ((Fh n).1)
def Wq{n:Nat}:Cv n (m+1)=(Fh n).1 (Cv n m):=rfl
@[go_sem]def ahm(m:Nat):=EV (Fh n) (Cv n) m
def Fi:LB (alv n) [0,1,0,1,1,1] [.wF 0,.cut [1,1,1,1],.at [1,1,1,1]]:=mB
def Fj:Nat->ZS:=C4 ((Fi n).1)
def Wr{n:Nat}:Fj n (m+1)=(Fi n).1 (Fj n m):=rfl
@[go_sem]def ahn(m:Nat):=EV (Fi n) (Fj n) m
def So:SC1 (Sn n) (nh k7.lU) 90:=mB
def Qk:=fu fun n=>(So n).1
def alw:∀n:Nat,EE gJ 76 (nh k7.lU) (oe .i64) (Qk n):=GQ fun n=>F4 (So n) (gd (k8 (oX (G1 n)) (k8 (oX (afj n)) (k8 (oX (EY n)) (k8 (oX (adV n)) li)))) lj) func76 ntmps76 results76
def aji:Ce:=⟨[(15,3,true)],[],(zK::py (zA::zA::zK::py (zA::zA::zK::zK::Ip (oZ (oZ (oZ [])))))),[oK,oK,oK,oC [zK,zK,zK,zK,zK],oC [zK,zK,zK,zK],oA mG.row],none,none⟩
def ajj:Ce:=⟨[],[],(zK::py (zA::zA::zK::oZ (oZ (zA::zA::zT (nA awm)::zK::zK::zA::zA::zA::zT (nA mJ)::zK::zK::Ip (py (py (py (zA::[])))))))),[oK,oK,oK,oC [zK,zK,zK,zK,zK]],none,none⟩
def ajk:Ce:=⟨[],[],(zK::py (zA::zA::zK::oZ (oZ (zA::zA::zT (nA awm)::zK::zK::Ip (oZ (zA::zA::zA::[])))))),[oK,oK,oK,oC [zK,zK,zK,zK,zK]],none,none⟩
def ajl:Ce:=⟨[],[],(zK::zT (nA mJ)::py (zA::zK::oZ (zA::zT (nA mJ)::zK::zK::Ip (oZ (oZ (py [])))))),[oK,oK,oK,oC [zK,zK,zK,zK,zK]],none,none⟩
@[reducible] def I4:mg TS:=qj gJ f147 n (pR gJ [.tmp 4,.tmp 5,.tmp 6] (ty3 (nA mG.row) (oe .i64) (oe .i64))) (cl:=oN [(139,rB oa p8 (Qd n)),(193,rB (oe .u8) (oe .i64) (HZ n)),(195,avQ (nA mJ) (Ur n)),(199,Sk (Lv n)),(200,Ac (EZ n)),(201,Ac (IP n)),(202,Ac (Fa n)),(203,Ac (Fc n)),(204,UI (Bw n))]) (vc:=tK [([0,1,0,1,1,1,1,1,1,1],aji),([0,1,1,0,0,1,1,0,0,1,0,1,1,1],ajj),([0,1,0,1,1,1],ajk),([0,1,0,1,1],ajl)]) (AI:=oR []) (AK:=oR [])
def at6:yB (I4 n) [0,1,1,0,0,1,0,0,1,0,1,1,1,1,1,1,1]=true:=kX
def at7:aB1 (I4 n) [0,1,1,0,0,1,0,0,1,0,1,1,1,1,1,1,1] 6 15 8 15 12 15:=⟨kX,kX,kX⟩
attribute [go_sem] at6 at7 aji ajj ajk ajl
abbrev ajm(v0:lH)(r0 r1 r2:List (lH×Bool))(v4:lH)(v5:Int)(r5:List mG)(c5:Nat):k9:=⟨(.str (sb v0)::pM (qA::qA::.ptr 3 0::pM (qA::qA::.ptr 4 0::.nW 5 c5::Io (pg (pg (pg [])))))),[.map (mp K2 r0),.map (mp K2 r1),.map (mp K2 r2),.cells [.str (sb v4),.int .i64 v5,.map 0,.map 1,.map 2],.cells [.func (.func 200) [.ptr 3 0] [],.func (.func 201) [.ptr 3 0] [],.func (.func 202) [.ptr 3 0] [],.func (.func 203) [.ptr 3 0] []],.nW true 3 (mp mG.cells r5)],0,[]⟩
abbrev ajn:List Kt:=[.wF 6,.cut [1,1,1,1,1,1,1,1],.at [1,1,1,1,1,1,1,1]]
abbrev ajo:=lH->Ta->Ta->Ta->lH->Int->(List mG)->Option TS
abbrev art(K:List Kt)(Z:ajo):Prop:=∀v0 r0 r1 r2 v4 v5 r5 c5,c5=r5.length->run (I4 n) K (ajm v0 r0 r1 r2 v4 v5 r5 c5)=Z v0 r0 r1 r2 v4 v5 r5
abbrev ajp(v0:lH)(v1:List (List lH))(v2 v3:Int)(v4:List lH)(v5 v6:Int)(r0 r1 r2:List (lH×Bool))(v10:lH):k9:=⟨(.str (sb v0)::pM (qA::qA::.ptr 3 0::pg (pg (qA::qA::.mj false 1 (mp agG v1)::.int .i64 v2::.int .i64 v3::qA::qA::qA::.mj false 1 (mp mS v4)::.int .i64 v5::.int .i64 v6::Io (pM (pM (pM (qA::[])))))))),[.map (mp K2 r0),.map (mp K2 r1),.map (mp K2 r2),.cells [.str (sb v10),.int .i64 0,.map 0,.map 1,.map 2]],0,[]⟩
abbrev ajq(m3:Nat):List Kt:=[.wF 4,.wF 3,.cut [1,1,1,0,0,1,0,1,1,1],.at [1,1,1,0,0,1,0,1,1,1],.lp m3 [0,1,0,1,1,1],.wF 2,.cut [1,1,1,1],.at [1,1,1,1]]
abbrev ajr:=lH->(List (List lH))->Int->Int->(List lH)->Int->Int->Ta->Ta->Ta->lH->Option TS
abbrev aru(K:List Kt)(Z:ajr):Prop:=∀v0 v1 v2 v3 v4 v5 v6 r0 r1 r2 v10,run (I4 n) K (ajp v0 v1 v2 v3 v4 v5 v6 r0 r1 r2 v10)=Z v0 v1 v2 v3 v4 v5 v6 r0 r1 r2 v10
abbrev ajs(v0:lH)(v1:List (List lH))(v2 v3:Int)(r0 r1 r2:List (lH×Bool))(v7:lH):k9:=⟨(.str (sb v0)::pM (qA::qA::.ptr 3 0::pg (pg (qA::qA::.mj false 1 (mp agG v1)::.int .i64 v2::.int .i64 v3::Io (pg (qA::qA::qA::[])))))),[.map (mp K2 r0),.map (mp K2 r1),.map (mp K2 r2),.cells [.str (sb v7),.int .i64 0,.map 0,.map 1,.map 2]],0,[]⟩
abbrev SK:=lH->(List (List lH))->Int->Int->Ta->Ta->Ta->lH->Option TS
abbrev aaZ(K:List Kt)(Z:SK):Prop:=∀v0 v1 v2 v3 r0 r1 r2 v7,run (I4 n) K (ajs v0 v1 v2 v3 r0 r1 r2 v7)=Z v0 v1 v2 v3 r0 r1 r2 v7
abbrev ajt(v0:lH)(v1 v2:List lH)(v3 v4:Int)(r0 r1 r2:List (lH×Bool))(v8:lH):k9:=⟨(.str (sb v0)::.mj false 1 (mp mS v1)::pM (qA::.ptr 3 0::pg (qA::.mj false 1 (mp mS v2)::.int .i64 v3::.int .i64 v4::Io (pg (pg (pM [])))))),[.map (mp K2 r0),.map (mp K2 r1),.map (mp K2 r2),.cells [.str (sb v8),.int .i64 0,.map 0,.map 1,.map 2]],0,[]⟩
abbrev aju:=lH->(List lH)->(List lH)->Int->Int->Ta->Ta->Ta->lH->Option TS
abbrev arv(K:List Kt)(Z:aju):Prop:=∀v0 v1 v2 v3 v4 r0 r1 r2 v8,run (I4 n) K (ajt v0 v1 v2 v3 v4 r0 r1 r2 v8)=Z v0 v1 v2 v3 v4 r0 r1 r2 v8
attribute [go_sem] ajm ajn ajp ajq ajs ajt
def SL:LB (art n) [0,1,0,1,1,1,1,1,1,1] ajn:=mB
def FU:Nat->ajo:=C4 ((SL n).1)
def aox{n:Nat}:FU n (m+1)=(SL n).1 (FU n m):=rfl
@[go_sem]def acA(m:Nat):=EV (SL n) (FU n) m
def Nc:LB2 (aaZ n) [0,1,0,1,1,1] [.wF 2,.cut [1,1,1,1],.at [1,1,1,1]] (aru n) [0,1,1,0,0,1,1,0,0,1,0,1,1,1] ajq:=mB
def DB(X3:SK):Nat->ajr:=C4 ((Nc n).1 X3)
def afk{n:Nat}(X3:SK):DB n X3 (m+1)=(Nc n).1 X3 (DB n X3 m):=rfl
def amP{m3:Nat}{X3}(h3:aaZ n (.lq m3 [0,1,0,1,1,1]::[.wF 2,.cut [1,1,1,1],.at [1,1,1,1]]) X3)(m:Nat):=aB2 (Nc n) h3 (DB n X3) m
def JU:LB (aaZ n) [0,1,0,1,1,1] [.wF 2,.cut [1,1,1,1],.at [1,1,1,1]]:=by
 apply gX;intro m X0 ih v0 v1 v2 v3 r0 r1 r2 v7;simp (config:={maxSteps:=100000000}) only[go_sem,gO,gP,gK,gL,gQ,gR,gT,gU,gV,gM,gS,gW,f147,gN,mixed,acA n,amP n ih,ih];exact rfl
def zZ:Nat->SK:=C4 ((JU n).1)
def VC{n:Nat}:zZ n (m+1)=(JU n).1 (zZ n m):=rfl
@[go_sem]def amQ(m:Nat):=EV (JU n) (zZ n) m
def Nd:LB (arv n) [0,1,0,1,1] [.wF 0,.cut [1,1,1],.at [1,1,1]]:=mB
def Nf:Nat->aju:=C4 ((Nd n).1)
def afl{n:Nat}:Nf n (m+1)=(Nd n).1 (Nf n m):=rfl
@[go_sem]def amR(m:Nat):=EV (Nd n) (Nf n) m
def aek:Vd (I4 n) oa (nA mJ) 128:=mB
def Yc:=fu fun n=>(aek n).1
def arw:∀n:Nat,AW gJ 147 oa (nA mJ) (ty3 (nA mG.row) (oe .i64) (oe .i64)) (Yc n):=EW fun n=>CN (aek n) (gd (k8 (oX (afj n)) (k8 (oX (K8 n)) (k8 (akU (agY n)) (k8 (nJ (ZF n)) (k8 (nJ (abO n)) (k8 (nJ (afF n)) (k8 (nJ (acg n)) (k8 (nJ (acr n)) (k8 (nJ (afI n)) li))))))))) lj) func147 ntmps147 results147
@[go_sem]def LJ:Ce:=⟨[],[],(zK::zA::zA::zK::py (py (py (zA::zA::zA::[])))),[oT kZ.lU,oA mJ],none,none⟩
@[go_sem]def KL:Ce:=⟨[],[],(zK::zA::zA::zL mJ::py (py (py (zA::zA::zA::[])))),[oT kZ.lU],(some 3),none⟩
@[go_sem]abbrev A3(F:kZ->Option TP)(b:T6)(a:Unit):=F b.1.1
@[go_sem]def Mq(F:kZ->Option TP):=A7 true [.arg 0 []] kY (nC 0 lX) kY (nu (nA mJ) lX) kY lr (A3 F)
@[reducible] def A4:mg TP:=qj gJ f352 n (tO gJ [.tmp 2] [] [0] 1 kY (nu (nA mJ) lX)) (cl:=oN [(88,DP [0] (xo (CK kZ.lU) vI) (WK 0 MJ) (xo (CK kZ.lU) vI) (V0 oa KQ) (fun(b:Te) a=>(nV n) b.1)),(154,HJ (tV (rB (xM kZ.lU) p8 (vF n))))]) (vc:=tK [([0,0,1,1],KL),([0,0,1,1],LJ)]) (ua:=tP [] [0] 1 kY lr) (cp:=DR [(82,nP (pO n)),(149,qM (tY n))]) (zV:=oR [82,149])
@[go_sem]abbrev LK(o0:kZ)(r1:List lH)(c1:Nat):k9:=⟨(.ptr 0 0::qA::qA::.nW 1 c1::pM (pM (pM (qA::qA::qA::[])))),[.cells (kZ.cells o0),.nW true 1 (mp mS r1)],1,[]⟩
abbrev LL:=kZ->(List lH)->Option TP
abbrev Yd(K:List Kt)(Z:LL):Prop:=∀o0 r1 c1,c1=r1.length->run (A4 n) K (LK o0 r1 c1)=Z o0 r1
def As:LB (Yd n) [0,0,1,1] [.wF 0,.cut [1,1,1],.at [1,1,1]]:=by
 apply gX;intro m X0 ih o0 r1 c1 ec1;subst ec1;simp (config:={maxSteps:=100000000}) only[go_sem,gO,gP,gK,gL,gQ,gR,gT,gU,gV,gM,gS,gW,f352,gN,mixed,ih];exact rfl
def Au:Nat->LL:=C4 ((As n).1)
def VD{n:Nat}:Au n (m+1)=(As n).1 (Au n m):=rfl
def H8(m:Nat):=EV (As n) (Au n) m
def Dn:{B:Nat->(List lH)->kZ->Option TP //∀(m:Nat)(v0:List lH)(o0:kZ),run (A4 n) [.at [0,0,0,1,1],.lp m [0,0,1,1],.wF 0,.cut [1,1,1],.at [1,1,1]] ⟨[.ptr 0 0,qA,qA,.mj true 1 (mp mS v0),qA,qA,qA,qA,qA,qA,qA,qA,qA,qA,qA,qA,qA,qA,qA],[.cells (kZ.cells o0)],1,[]⟩=B m v0 o0}:=by
 apply gX;intro m v0 o0;simp (config:={maxSteps:=100000000}) only[go_sem,gO,gP,gK,gL,gQ,gR,gT,gU,gV,gM,gS,gW,f352,gN,mixed,H8 n];exact rfl
def D1:Nat->(List lH)->kZ->Option TP
 |0,_,_=>none
 |m+1,v0,o0=>(Dn n).1 m v0 o0
def UJ:∀(m:Nat),(∀(v0:List lH)(o0:kZ),run (A4 n) [.lq m [0,0,1,1],.wF 0,.cut [1,1,1],.at [1,1,1]] ⟨[.ptr 0 0,qA,qA,.mj true 1 (mp mS v0),qA,qA,qA,qA,qA,qA,qA,qA,qA,qA,qA,qA,qA,qA,qA],[.cells (kZ.cells o0)],1,[]⟩=D1 n m v0 o0)
 |0=>by intros;exact SZ
 |m+1=>by
  intro v0 o0;rw[KZ];exact(Dn n).2 m v0 o0
def EN:SX (A4 n) (nC 0 lX) kY 19 A3:=by
 apply gX
 repeat (first|refine Prod.forall.2 ?_|intro)
 simp (config:={maxSteps:=100000000}) only[go_sem,gO,gP,gK,gL,gQ,gR,gT,gU,gV,gM,gS,gW,f352,gN,mixed,H8 n,UJ n];exact rfl
def Cw:=fu fun n=>(EN n).1
def Ye:∀n:Nat,wE gJ 352 (nC 0 lX) kY true kY (nu (nA mJ) lX) kY lr (A3 (Cw n)):=adE fun n=>Iq (EN n) (gd (k8 (rR (fun b a r h=>(nZ n) b.1 r h)) (k8 (s9 (p4 (Dh n))) li)) lj (p:=(lQ (mo (pV n)) (lQ (mo (xD n)) nE)))) func352 ntmps352 results352
open Go.Proofs
@[reducible] def Hw:mg Bool:=qj gJ f30 n (pR gJ [.tmp 4] p8) (cl:=oN [(74,q6 (nA k7.row) (tyF 67) (oe .i64) (wv n))])
def uA:Vd (Hw n) (nA k7.row) (tyF 67) 9:=mB
def u7:=fu fun n=>(uA n).1
def Gb:∀n:Nat,AW gJ 30 (nA k7.row) (tyF 67) p8 (u7 n):=EW fun n=>CN (uA n) (gd (k8 (ni (I3 n)) li) lj) func30 ntmps30 results30
@[reducible] def Ng:mg (lH×Int):=qj gJ f106 n (pR gJ [.tmp 6,.tmp 7] (ty2 oa (oe .i64))) (cl:=oN [(108,q6 (xM lA.lU) (oe .i64) oa (ME n))]) (cd:=KO [(79,tV (q6 (nA mJ) oa p8 (qQ n))),(168,tV (q6 (nA mJ) oa p8 (sA n)))]) (AI:=oR []) (AK:=oR [])
@[go_sem]def aa0:yB (Ng n) [0,0,1,1,1]=true:=kX
def Nh:SC3 (Ng n) (xM lA.lU) (oe .i64) (oe .i64) 75:=JT
def Ql:=fu fun n=>(Nh n).1
def YX:∀n:Nat,awJ gJ 106 (xM lA.lU) (oe .i64) (oe .i64) (ty2 oa (oe .i64)) (Ql n):=aHs fun n=>aEz (Nh n) (gd (k8 (ni (P4 n)) li) (ot (vg (sw n)) (ot (vg (vn n)) lj))) func106 ntmps106 results106
def Qm:Ce:=⟨[],[],(zT (xM lA.lU)::zA::zA::zA::zK::zA::zK::oZ (py (py (zT (nA l5.row)::zK::zK::Ip (zA::[]))))),[oD,oK,oC [zK,zK],oA lz.row],none,none⟩
@[reducible] def vS:mg (ld×Int):=qj gJ f110 n (pR gJ [.cell 4 112,.tmp 5] (ty2 (nh ld.lU) (oe .i64))) (cl:=oN [(172,q6 (nA l5.row) (tyF 173) p8 (wS n))]) (cd:=KO [(79,tV (q6 (nA mJ) oa p8 (qQ n))),(168,tV (q6 (nA mJ) oa p8 (sA n)))]) (vc:=tK [([0,1,0,1,1,1,1],Qm)]) (cut:=ap1 [] [([1,1,1],2,1,2,true)]) (AI:=oR []) (AK:=oR [])
def afM:an1 (vS n) [0,0,1,0,0,1,1,0,0,1,0,1,1,1,1] [1,1,0,0,1,1,0,0,1,0,1,1,1,1]:=⟨kX,kX⟩
def afN:DE (vS n) [1,1,0,0,1,1,0,0,1,0,1,1,1,1] 1 14 5 14 7 14 8 14/\DE (vS n) [1,1,0,0,1,1,0,0,1,0,1,1,1,1] 9 14 11 14 1 16 5 16/\DE (vS n) [1,1,0,0,1,1,0,0,1,0,1,1,1,1] 7 16 8 16 9 16 11 16/\R3 (vS n) [1,1,0,0,1,1,0,0,1,0,1,1,1,1] 14 16=true:=⟨⟨kX,kX,kX,kX⟩,⟨kX,kX,kX,kX⟩,⟨kX,kX,kX,kX⟩,kX⟩
attribute [go_sem] afM afN Qm
@[go_sem]abbrev Qn(v0:lA)(v1:List l5)(v2 v3:Int)(r3:List lz)(c3:Nat):k9:=⟨(.pp (lA.cells v0)::qA::qA::qA::.ptr 1 0::qA::.ptr 2 0::pg (pM (pM (.mj false 2 (mp l5.cells v1)::.int .i64 v2::.int .i64 v3::Io (qA::[]))))),[.zU,.cells [.bool false,.mj true 0 []],.cells [.bool false,.nW 3 c3],.nW true 2 (mp lz.cells r3)],0,[]⟩
abbrev Qo:=lA->(List l5)->Int->Int->(List lz)->Option (ld×Int)
abbrev ael(K:List Kt)(Z:Qo):Prop:=∀v0 v1 v2 v3 r3 c3,c3=r3.length->run (vS n) K (Qn v0 v1 v2 v3 r3 c3)=Z v0 v1 v2 v3 r3
def I5:LB (ael n) [0,1,0,1,1,1,1] [.wF 0,.cut [1,1,1,1,1],.at [1,1,1,1,1]]:=mB
def I6:Nat->Qo:=C4 ((I5 n).1)
def arx{n:Nat}:I6 n (m+1)=(I5 n).1 (I6 n m):=rfl
@[go_sem]def YY(m:Nat):=EV (I5 n) (I6 n) m
def Rv:Vd (vS n) (xM lA.lU) (nh nD.lU) 99:=mB
def Ws:=fu fun n=>(Rv n).1
def aem:∀n:Nat,AW gJ 110 (xM lA.lU) (nh nD.lU) (ty2 (nh ld.lU) (oe .i64)) (Ws n):=EW fun n=>CN (Rv n) (gdM (k8 (ni (CW n)) li) (ot (vg (sw n)) (ot (vg (vn n)) lj))) func110 ntmps110 results110
def qN:Bz:=(ayk [(1,.ret)] (sub [0,1,0,1,1] ((f169.body).getD .skip)))
@[go_sem,go_sem]def D2:qN.ps.size=1/\∀j:Int,sG qN.js j=bif j==0 then none else some .ret:=⟨kX,fun j=>rfl⟩
@[go_sem]def mI:=(vV (apT qN (alZ (alZ (nC 1 (nC 2 (nC 3 (nC 4 (F3 35 lX)))))))) (vV (EB (V1 mm.lU 7 lX)) (vV (EB (V1 cS 1 lX)) (vV (EB (V1 cS 1 lX)) (vV (EB (V1 (cI .i64) 1 lX)) Ex)))))
@[go_sem]def oF:=(vV (ogL qN (alZ (alZ (nC 1 (nC 2 (nC 3 (nC 4 (F3 35 lX)))))))) (vV (EB (V1 mm.lU 7 lX)) (vV (EB (V1 cS 1 lX)) (vV (EB (V1 cS 1 lX)) (vV (EB (V1 (cI .i64) 1 lX)) Ex)))))
def om:mg (TR×(Bool×Unit)) where
 body:=.seq (V2 (sub [0,1,0,1,1] ((f169.body).getD .skip))) (aiq (sub [0,1,0,1,1] ((f169.body).getD .skip)))
 P:=gJ
 cl:=oN [(220,q6 (nA mJ) oa oa (Kv n)),(221,q6 (nh mm.lU) oa p8 (LI n))]
 cd:=KO []
 vc:=tK []
 cut:=aPo []
 n:=n
 out:=(fun _=>none)
 pR:=Xk [(1,.ret)] [] [0,1,2,3,4] 5 oF
 zV:=oR []
def VF:(om n).P=gJ/\(om n).cl=oN [(220,q6 (nA mJ) oa oa (Kv n)),(221,q6 (nh mm.lU) oa p8 (LI n))]/\(om n).cd=KO []/\(om n).vc=tK []/\(om n).cut=aPo []/\(om n).n=n/\(om n).out=(fun _=>none)/\(om n).pR=Xk [(1,.ret)] [] [0,1,2,3,4] 5 oF/\(om n).zV=oR []:=⟨rfl,rfl,rfl,rfl,rfl,rfl,rfl,rfl,rfl⟩
def VG:(om n).body=.seq (V2 (sub [0,1,0,1,1] ((f169.body).getD .skip))) (aiq (sub [0,1,0,1,1] ((f169.body).getD .skip))):=rfl
def VH:Code.seq (V2 (sub [0,1,0,1,1] ((f169.body).getD .skip))) (aiq (sub [0,1,0,1,1] ((f169.body).getD .skip)))=Code.seq qN.assign qN.body:=kX
attribute [go_sem] VF VG D2
def JB:{B:(List lH)->mm->lH->lH->Int->Option (TR×(Bool×Unit)) //∀(a0:(List lH))(o0:mm)(o1:lH)(o2:lH)(o3:Int),run (om n) [.at [0],.rb,.at [1],.rd] {lE:=VY ((alZ (alZ (nC 1 (nC 2 (nC 3 (nC 4 (F3 35 lX))))))).enc (mI.nS ((),(o0,()),(o1,()),(o2,()),(o3,()),())) ()) [14] ((nu (nA mJ) lX).enc (mI.nS ((),(o0,()),(o1,()),(o2,()),(o3,()),())) (a0,())),heap:=(mI.enc (mI.nS ((),(o0,()),(o1,()),(o2,()),(o3,()),())) ((),(o0,()),(o1,()),(o2,()),(o3,()),())),low:=(mI.enc (mI.nS ((),(o0,()),(o1,()),(o2,()),(o3,()),())) ((),(o0,()),(o1,()),(o2,()),(o3,()),())).length}=B a0 o0 o1 o2 o3}:=mB
def LM:=fu fun n=>(JB n).1
def UK:∀(n:Nat)(a0:(List lH))(o0:mm)(o1:lH)(o2:lH)(o3:Int)(r:(TR×(Bool×Unit))),LM n a0 o0 o1 o2 o3=some r->FnT gJ (Xc gJ) ((nu (nA mJ) lX).enc (mI.nS ((),(o0,()),(o1,()),(o2,()),(o3,()),())) (a0,())) (mI.enc (mI.nS ((),(o0,()),(o1,()),(o2,()),(o3,()),())) ((),(o0,()),(o1,()),(o2,()),(o3,()),())) (fun o H'=>o=.ret (vJ ((nu p8 lX).enc (oF.nS r.1) r.2))/\H'=oF.enc (oF.nS r.1) r.1)
 |0,_,_,_,_,_,_,h=>by cases h
 |n+1,a0,o0,o1,o2,o3,r,h=>by
  exact akQ (M:=om n) (lk:=qN) (lE:=((alZ (alZ (nC 1 (nC 2 (nC 3 (nC 4 (F3 35 lX))))))).enc (mI.nS ((),(o0,()),(o1,()),(o2,()),(o3,()),())) ())) ⟨(k8 (ni (Uq n)) (k8 (ni (Qj n)) li)),lj,qW _,rX _,uh,ui,uG,uw⟩ VH (kX) ⟨kX,kX⟩ rfl (uT (Nat.le_trans (kT (kX)) (Nat.le_of_eq (mI.sz _ _).symm)) _ ((nu (nA mJ) lX).nb _ _)) (fun x hx=>DD (Nat.le_trans (kT (kX)) (Nat.le_of_eq (mI.sz _ _).symm)) _ (mI.nb _ _ x hx)) (fun e J hs=>agF (js:=[(1,.ret)]) (pos:=[]) (base:=[0,1,2,3,4]) (low:=5) (os:=oF) (e:=e) (J:=J) (r:=r) (by rfl) hs) (((JB n).2 a0 o0 o1 o2 o3).trans h)
@[go_sem]def afm:Ce:=⟨[(5,1,true)],[],(zA::zK::zK::zA::zA::zK::py (zT (nA mJ)::zK::zK::oZ (py (zA::zA::[])))),[oT mm.lU,oA mJ],none,none⟩
@[reducible] def aho:mg (List lH):=qj gJ f222 n (pR gJ [.tmp 4] (nA mJ)) (cl:=oN [(79,q6 (nA mJ) oa p8 (qQ n)),(220,q6 (nA mJ) oa oa (Kv n)),(221,q6 (nh mm.lU) oa p8 (LI n))]) (vc:=tK [([0,1,0,1,1],afm)])
@[go_sem]abbrev afn(v0:lH)(v1:List lH)(v2 v3:Int)(o0:mm)(r1:List lH)(c1:Nat):k9:=⟨(qA::.str (sb v0)::.ptr 0 0::qA::qA::.nW 1 c1::pM (.mj false 1 (mp mS v1)::.int .i64 v2::.int .i64 v3::pg (pM (qA::qA::[])))),[.cells (mm.cells o0),.nW true 1 (mp mS r1)],0,[]⟩
abbrev afo:=lH->(List lH)->Int->Int->mm->(List lH)->Option (List lH)
abbrev aoy(K:List Kt)(Z:afo):Prop:=∀v0 v1 v2 v3 o0 r1 c1,c1=r1.length->run (aho n) K (afn v0 v1 v2 v3 o0 r1 c1)=Z v0 v1 v2 v3 o0 r1
def VI:LB (aoy n) [0,1,0,1,1] [.wF 0,.cut [1,1,1],.at [1,1,1]]:=mB
def VJ:Nat->afo:=C4 ((VI n).1)
def aAB{n:Nat}:VJ n (m+1)=(VI n).1 (VJ n m):=rfl
@[go_sem]def akd(m:Nat):=EV (VI n) (VJ n) m
def ahp:Vd (aho n) (nh mm.lU) oa 35:=mB
def alx:=fu fun n=>(ahp n).1
def aoz:∀n:Nat,AW gJ 222 (nh mm.lU) oa (nA mJ) (alx n):=EW fun n=>CN (ahp n) (gd (k8 (ni (sw n)) (k8 (ni (Uq n)) (k8 (ni (Qj n)) li))) lj) func222 ntmps222 results222
def Rw:Ce:=⟨[],[],(zK::Ip (py (py (py (zA::zA::zA::zT (nA mJ)::zK::zK::oZ (zA::zA::[])))))),[oC [zK,zK,zK,zK],oM (nh k7.lU),oM (nh k7.lU),oK],none,none⟩
def Rx:Ce:=⟨[],[],(zK::zA::zA::zK::zA::zA::zK::zK::zT (nA mJ)::oZ (oZ (py (py (py (zA::zA::zA::zT (nA mJ)::zK::zK::oZ (oZ (py (py (zA::zA::[])))))))))),[oC [zK,zK,zK,zK],oM (nh k7.lU),oM (nh k7.lU),oK,oT k7.lU],none,(some (6,2))⟩
def Ry:Ce:=⟨[],[],(zK::zA::zA::zK::zA::zA::zK::zK::zT (nA mJ)::oZ (oZ (py (py (py (zA::zA::zA::zT (nA mJ)::zK::zK::oZ (oZ (py (py (zA::zA::[])))))))))),[oC [zK,zK,zK,zK],oM (nh k7.lU),oM (nh k7.lU),oK,oT k7.lU],none,(some (6,1))⟩
@[go_sem]abbrev Fk(F:k7->Int->Tb->Tb->Ta->Option T16)(b:T7)(a:(k7×Unit)):=F a.1 b.1.1 b.2.1 b.2.2.1 b.2.2.2.1
@[go_sem]def LN(F:k7->Int->Tb->Tb->Ta->Option T16):=Im [.arg 0 [],.yj 0 0 [],.yj 0 1 [],.yj 0 2 []] nq (nC 0 (nu (nh k7.lU) lX)) nq (nu (oe .i64) lX) (Fk F)
@[reducible] def Fl:mg T16:=qj gJ f36 n (yK gJ [.tmp 4] [] [0,1,2,3] 4 nq (nu (oe .i64) lX)) (cl:=oN [(76,rB (nh k7.lU) (oe .i64) (Qk n)),(78,rB (nh k7.lU) p8 (DA n)),(79,q6 (nA mJ) oa p8 (qQ n))]) (vc:=tK [([0,1,0,1,1,1,1,1,1,1,1],Rw),([0,1,0,1,1,1,1,1,1],Rx),([0,1,0,1,1,1,1,1,1],Ry)]) (cp:=DR [(77,PX (Ld n))]) (zV:=oR [77])
attribute [go_sem] Rw Rx Ry
abbrev Rz(v0:List lH)(v1 v2 v3:Int)(r1 r2:List (lH×k7))(r3:List (lH×Bool)):k9:=⟨(.ptr 0 0::Io (pM (pM (pM (qA::qA::qA::.mj false 1 (mp mS v0)::.int .i64 v1::.int .i64 v2::pg (qA::qA::[])))))),[.cells [.map 1,.map 2,.map 3,.int .i64 v3],.map (mp (R9 (nh k7.lU)) r1),.map (mp (R9 (nh k7.lU)) r2),.map (mp K2 r3)],4,[]⟩
abbrev RA:List Kt:=[.wF 2,.cut [1,1,1,1,1,1,1,1,1],.at [1,1,1,1,1,1,1,1,1]]
abbrev RB:=(List lH)->Int->Int->Int->Tb->Tb->Ta->Option T16
abbrev afO(K:List Kt)(Z:RB):Prop:=∀v0 v1 v2 v3 r1 r2 r3,run (Fl n) K (Rz v0 v1 v2 v3 r1 r2 r3)=Z v0 v1 v2 v3 r1 r2 r3
abbrev RC(v0:lH)(v1 v2:List lH)(v3 v4 v5:Int)(r1 r2:List (lH×k7))(r3:List (lH×Bool))(o4:k7):k9:=⟨(.ptr 0 0::qA::qA::.ptr 4 0::qA::qA::.map 2::.str (sb v0)::.mj false 1 (mp mS v1)::pg (pg (pM (pM (pM (qA::qA::qA::.mj false 1 (mp mS v2)::.int .i64 v3::.int .i64 v4::pg (pg (pM (pM (qA::qA::[])))))))))),[.cells [.map 1,.map 2,.map 3,.int .i64 v5],.map (mp (R9 (nh k7.lU)) r1),.map (mp (R9 (nh k7.lU)) r2),.map (mp K2 r3),.cells (k7.cells o4)],4,[]⟩
abbrev Kc:List Kt:=[.wF 0,.cut [1,1,1,1,1,1,1],.at [1,1,1,1,1,1,1]]
abbrev El:=lH->(List lH)->(List lH)->Int->Int->Int->Tb->Tb->Ta->k7->Option T16
abbrev afP(K:List Kt)(Z:El):Prop:=∀v0 v1 v2 v3 v4 v5 r1 r2 r3 o4,run (Fl n) K (RC v0 v1 v2 v3 v4 v5 r1 r2 r3 o4)=Z v0 v1 v2 v3 v4 v5 r1 r2 r3 o4
abbrev RD(v0:lH)(v1 v2:List lH)(v3 v4 v5:Int)(r1 r2:List (lH×k7))(r3:List (lH×Bool))(o4:k7):k9:=⟨(.ptr 0 0::qA::qA::.ptr 4 0::qA::qA::.map 1::.str (sb v0)::.mj false 1 (mp mS v1)::pg (pg (pM (pM (pM (qA::qA::qA::.mj false 1 (mp mS v2)::.int .i64 v3::.int .i64 v4::pg (pg (pM (pM (qA::qA::[])))))))))),[.cells [.map 1,.map 2,.map 3,.int .i64 v5],.map (mp (R9 (nh k7.lU)) r1),.map (mp (R9 (nh k7.lU)) r2),.map (mp K2 r3),.cells (k7.cells o4)],4,[]⟩
abbrev afQ(K:List Kt)(Z:El):Prop:=∀v0 v1 v2 v3 v4 v5 r1 r2 r3 o4,run (Fl n) K (RD v0 v1 v2 v3 v4 v5 r1 r2 r3 o4)=Z v0 v1 v2 v3 v4 v5 r1 r2 r3 o4
attribute [go_sem] Rz RA RC Kc RD
def Bi:LB (afO n) [0,1,0,1,1,1,1,1,1,1,1] RA:=JT
def xQ:Nat->RB:=C4 ((Bi n).1)
def OK{n:Nat}:xQ n (m+1)=(Bi n).1 (xQ n m):=rfl
@[go_sem]def aa1(m:Nat):=EV (Bi n) (xQ n) m
def Bj:LB (afP n) [0,1,0,1,1,1,1,1,1] Kc:=JT
def Bk:Nat->El:=C4 ((Bj n).1)
def OM{n:Nat}:Bk n (m+1)=(Bj n).1 (Bk n m):=rfl
@[go_sem]def aa2(m:Nat):=EV (Bj n) (Bk n) m
def Bl:LB (afQ n) [0,1,0,1,1,1,1,1,1] Kc:=JT
def Bm:Nat->El:=C4 ((Bl n).1)
def ON{n:Nat}:Bm n (m+1)=(Bl n).1 (Bm n m):=rfl
@[go_sem]def aa3(m:Nat):=EV (Bl n) (Bm n) m
def LO:SX (Fl n) (nC 0 (nu (nh k7.lU) lX)) nq 101 Fk:=Ea
def D3:=fu fun n=>(LO n).1
def RE:∀n:Nat,AX gJ 36 (nC 0 (nu (nh k7.lU) lX)) nq nq (nu (oe .i64) lX) (Fk (D3 n)):=Ve fun n=>GR (LO n) (gd (k8 (oX (alw n)) (k8 (oX (G1 n)) (k8 (ni (sw n)) li))) lj (p:=(lQ (mo (abV n)) nE))) func36 ntmps36 results36
open Go.Proofs
@[go_sem]def Gs:=(nu oa (nu (oe .i64) (nu (oe .i64) (nu (nA mJ) lX))))
@[go_sem]abbrev I7(F:lH->Int->Int->(List lH)->Option TU)(b:Unit)(a:(lH×(Int×(Int×Tm)))):=F a.1 a.2.1 a.2.2.1 a.2.2.2.1
@[go_sem]def Yf(F:lH->Int->Int->(List lH)->Option TU):=A7 true [] Ex Gs Ex (nu (nh lI.lU) lX) Ex lr (I7 F)
@[reducible] def ake:mg TU:=qj gJ f81 n (tO gJ [.cell 8 157] [] [] 0 Ex (nu (nh lI.lU) lX)) (cl:=oN [(147,q6 oa (nA mJ) (ty3 (nA mG.row) (oe .i64) (oe .i64)) (Yc n))]) (ua:=tP [] [] 0 Ex lr)
def NW:SX (ake n) Gs Ex 33 I7:=Ea
def Sp:=fu fun n=>(NW n).1
def aiJ:∀n:Nat,wE gJ 81 Gs Ex true Ex (nu (nh lI.lU) lX) Ex lr (I7 (Sp n)):=adE fun n=>Iq (NW n) (gd (k8 (ni (arw n)) li) lj) func81 ntmps81 results81
@[go_sem]abbrev vT(F:kZ->Option TN)(b:T6)(a:Unit):=F b.1.1
@[go_sem]def Kd(F:kZ->Option TN):=A7 true [.arg 0 []] kY (nC 0 lX) kY (nu (nh ld.lU) lX) kY lr (vT F)
@[reducible] def afR:mg TN:=qj gJ f332 n (tO gJ [.cell 2 112] [] [0] 1 kY (nu (nh ld.lU) lX)) (cl:=oN [(153,DP [0] (xo (CK kZ.lU) vI) (WK 0 (asT oa MJ)) (xo (CK kZ.lU) vI) (V0 p8 KQ) (fun(b:Te) a=>(oB n) b.1 a.1))]) (ua:=tP [] [0] 1 kY lr) (cp:=DR [(335,Ru (sH n))]) (zV:=oR [335])
def Ke:SX (afR n) (nC 0 lX) kY 11 vT:=Ea
def CY:=fu fun n=>(Ke n).1
def Qp:∀n:Nat,wE gJ 332 (nC 0 lX) kY true kY (nu (nh ld.lU) lX) kY lr (vT (CY n)):=adE fun n=>Iq (Ke n) (gd (k8 (rR (fun b a r h=>(pJ n) b.1 a.1 r h)) li) lj (p:=(lQ (mo (aej n)) nE))) func332 ntmps332 results332
@[go_sem]def JC:Ce:=⟨[],[],(zT (nA mJ)::py (zK::py (zT (nA ld.row)::zK::zK::py (py (zA::zA::zA::zT (nA lz.row)::zK::zK::oZ (py (py []))))))),[],none,none⟩
@[go_sem]def JD:Ce:=⟨[],[],(zT (nA mJ)::py (zK::py (zT (nA ld.row)::zK::zK::oZ (oZ (py (zA::zA::[])))))),[],none,none⟩
@[reducible] def Do:mg Int:=qj gJ f125 n (pR gJ [.tmp 4] (oe .i64)) (cl:=oN [(168,q6 (nA mJ) oa p8 (sA n))]) (vc:=tK [([0,1,1,1,0,0,1,1,0,0,1,0,1,1],JC),([0,1,0,1,1],JD)])
abbrev JE(v0:List lH)(v1:Int)(v2:List ld)(v3 v4:Int)(v5:List lz)(v6 v7:Int):k9:=⟨(.mj false 1 (mp mS v0)::pM (.int .i64 v1::pM (.mj false 2 (mp ld.cells v2)::.int .i64 v3::.int .i64 v4::pM (pM (qA::qA::qA::.mj false 2 (mp lz.cells v5)::.int .i64 v6::.int .i64 v7::pg (pM (pM []))))))),[],0,[]⟩
abbrev JF(m2:Nat):List Kt:=[.wF 2,.wF 1,.cut [1,1,1,0,0,1,0,1,1],.at [1,1,1,0,0,1,0,1,1],.lp m2 [0,1,0,1,1],.wF 0,.cut [1,1,1],.at [1,1,1]]
abbrev JG:=(List lH)->Int->Tj->Int->Int->(List lz)->Int->Int->Option Int
abbrev VK(K:List Kt)(Z:JG):Prop:=∀v0 v1 v2 v3 v4 v5 v6 v7,run (Do n) K (JE v0 v1 v2 v3 v4 v5 v6 v7)=Z v0 v1 v2 v3 v4 v5 v6 v7
abbrev JH(v0:List lH)(v1:Int)(v2:List ld)(v3 v4:Int):k9:=⟨(.mj false 1 (mp mS v0)::pM (.int .i64 v1::pM (.mj false 2 (mp ld.cells v2)::.int .i64 v3::.int .i64 v4::pg (pg (pM (qA::qA::[])))))),[],0,[]⟩
abbrev yq:=(List lH)->Int->Tj->Int->Int->Option Int
abbrev CH(K:List Kt)(Z:yq):Prop:=∀v0 v1 v2 v3 v4,run (Do n) K (JH v0 v1 v2 v3 v4)=Z v0 v1 v2 v3 v4
attribute [go_sem] JE JF JH
def sv:LB2 (CH n) [0,1,0,1,1] [.wF 0,.cut [1,1,1],.at [1,1,1]] (VK n) [0,1,1,1,0,0,1,1,0,0,1,0,1,1] JF:=mB
def yt(X2:yq):Nat->JG:=C4 ((sv n).1 X2)
def xj{n:Nat}(X2:yq):yt n X2 (m+1)=(sv n).1 X2 (yt n X2 m):=rfl
def QW{m2:Nat}{X2}(h2:CH n (.lq m2 [0,1,0,1,1]::[.wF 0,.cut [1,1,1],.at [1,1,1]]) X2)(m:Nat):=aB2 (sv n) h2 (yt n X2) m
def vo:LB (CH n) [0,1,0,1,1] [.wF 0,.cut [1,1,1],.at [1,1,1]]:=by
 apply gX;intro m X0 ih v0 v1 v2 v3 v4;simp (config:={maxSteps:=100000000}) only[go_sem,gO,gP,gK,gL,gQ,gR,gT,gU,gV,gM,gS,gW,f125,gN,mixed,QW n ih,ih];exact rfl
def vp:Nat->yq:=C4 ((vo n).1)
def Hx{n:Nat}:vp n (m+1)=(vo n).1 (vp n m):=rfl
@[go_sem]def QX(m:Nat):=EV (vo n) (vp n) m
def Dp:Vd (Do n) (nA mJ) (nA ld.row) 51:=mB
def A5:=fu fun n=>(Dp n).1
def VM:∀n:Nat,AW gJ 125 (nA mJ) (nA ld.row) (oe .i64) (A5 n):=EW fun n=>CN (Dp n) (gd (k8 (ni (vn n)) li) lj) func125 ntmps125 results125
@[reducible] def UL:mg Bool:=qj gJ f128 n (pR gJ [.tmp 4] p8) (cl:=oN [(168,q6 (nA mJ) oa p8 (sA n))])
def B4:Vd (UL n) (nA mJ) oa 12:=mB
def wh:=fu fun n=>(B4 n).1
def Hy:∀n:Nat,AW gJ 128 (nA mJ) oa p8 (wh n):=EW fun n=>CN (B4 n) (gd (k8 (ni (vn n)) li) lj) func128 ntmps128 results128
open Go.Proofs
@[reducible] def ary:mg Bool:=qj gJ f25 n (pR gJ [.tmp 2] p8) (cl:=oN [(30,q6 (nA k7.row) (tyF 67) p8 (u7 n))])
def aa4:SC1 (ary n) (nA k7.row) 11:=mB
def ZT:=fu fun n=>(aa4 n).1
def aqg:∀n:Nat,EE gJ 25 (nA k7.row) p8 (ZT n):=GQ fun n=>F4 (aa4 n) (gd (k8 (ni (Gb n)) li) lj) func25 ntmps25 results25
@[go_sem]def UM:Ce:=⟨[],[],(zK::zT (xM mm.lU)::zA::zK::py (py (py (zA::zA::[])))),[oL [zA,zA,zK,zK,zK,zK,zA,zA,zA,zA,zA,zA,zA,zA,zA,zA,zA,zA,zA,zA,zA,zA,zA,zA,zA,zA,zA,zA,zA,zA,zA,zA,zA,zA,zA,zA,zA,zA,zA,zA,zA],oT mm.lU,oC [zK],oC [zK],oC [zK]],none,none⟩
@[go_sem]abbrev Gt(F:mm->mm->lH->lH->Int->Option (TR×Unit))(b:(Unit×Tn))(a:(mm×Unit)):=F a.1 b.2.1.1 b.2.2.1.1 b.2.2.2.1.1 b.2.2.2.2.1.1
@[go_sem]def Wt(F:mm->mm->lH->lH->Int->Option (TR×Unit)):=Im [.arg 0 [],.yj 0 2 [],.yj 0 3 [],.yj 0 4 [],.yj 0 5 []] mI (WM 0 (nu (xM mm.lU) lX)) oF lX (Gt F)
@[reducible] def Wu:mg (TR×Unit):=qj gJ f259 n (yK gJ [] [] [0,1,2,3,4] 5 oF lX) (vc:=tK [([0,1],UM)]) (cy:=apS [(0,awg [.yj 0 2 [],.yj 0 3 [],.yj 0 4 [],.yj 0 5 []] mI (nu (nA mJ) lX) oF (nu p8 lX) (fun(b:(Unit×Tn))(a:Tm)=>(LM n) a.1 b.2.1.1 b.2.2.1.1 b.2.2.2.1.1 b.2.2.2.2.1.1))])
@[go_sem]abbrev UN(v0:mm)(v1 j0:Int)(o1:mm)(v4 v5:lH)(v6:Int):k9:=⟨(.map 0::.pp (mm.cells v0)::qA::.int .i64 v1::pM (pM (pM (qA::qA::[])))),[.loop qN [qA,qA,.ptr 1 0,.ptr 2 0,.ptr 3 0,.ptr 4 0,qA,qA,qA,qA,qA,qA,qA,qA,qA,qA,qA,qA,qA,qA,qA,qA,qA,qA,qA,qA,qA,qA,qA,qA,qA,qA,qA,qA,qA,qA,qA,qA,qA,qA,qA] (stJ qN j0) j0,.cells (mm.cells o1),.cells [.str (sb v4)],.cells [.str (sb v5)],.cells [.int .i64 v6]],5,[]⟩
abbrev UO:=mm->Int->Int->mm->lH->lH->Int->Option (TR×Unit)
abbrev ahq(K:List Kt)(Z:UO):Prop:=∀v0 v1 j0 o1 v4 v5 v6,run (Wu n) K (UN v0 v1 j0 o1 v4 v5 v6)=Z v0 v1 j0 o1 v4 v5 v6
def LP:LB (ahq n) [0,1] [.wF 0]:=mB
def LQ:Nat->UO:=C4 ((LP n).1)
def aua{n:Nat}:LQ n (m+1)=(LP n).1 (LQ n m):=rfl
@[go_sem]def acB(m:Nat):=EV (LP n) (LQ n) m
def Wv:SX (Wu n) (WM 0 (nu (xM mm.lU) lX)) mI 18 Gt:=mC
def ZU:=fu fun n=>(Wv n).1
def ahr:∀n:Nat,AX gJ 259 (WM 0 (nu (xM mm.lU) lX)) mI oF lX (Gt (ZU n)):=Ve fun n=>GR (Wv n) (gd li lj (y:=(Pp (fun _ _ _ _ _ h=>ak0 (fun b a r h=>(UK n) a.1 b.2.1.1 b.2.2.1.1 b.2.2.2.1.1 b.2.2.2.2.1.1 r h) h) S9))) func259 ntmps259 results259
@[go_sem]def Ww:Ce:=⟨[],[],(py (zK::zA::zA::zA::zT (nA k7.row)::zK::zK::py (py (zA::[])))),[oC [zK,zK,zK,zK],oM (nh k7.lU),oM (nh k7.lU),oK],none,none⟩
@[go_sem]def Gu:=(alK (.uS (.pointer none)) aIC (alK (.bool false) aAr lX))
@[go_sem]abbrev I8(F:(List k7)->Option TY)(b:Unit)(a:TH):=F a.1
@[go_sem]def I9(F:(List k7)->Option TY):=A7 false [] Ex (nu (nA k7.row) lX) Ex Gu nq (nC 0 (alK (.bool true) aAr lX)) (I8 F)
@[reducible] def Yg:mg TY:=qj gJ f35 n (ak4 gJ [.tmp 2,.tmp 3] [] [] 0 Ex Gu [.arg 0 [],.yj 0 0 [],.yj 0 1 [],.yj 0 2 []] nq (nC 0 (alK (.bool true) aAr lX))) (cl:=oN [(36,LN (D3 n)),(75,Wb (Kp n))]) (vc:=tK [([0,1,0,1,1],Ww)])
@[go_sem]abbrev Wx(v0:List k7)(v1 v2 v3:Int)(r1 r2:List (lH×k7))(r3:List (lH×Bool)):k9:=⟨(pM (.ptr 0 0::qA::qA::qA::.mj false 4 (mp k7.cells v0)::.int .i64 v1::.int .i64 v2::pM (pM (qA::[])))),[.cells [.map 1,.map 2,.map 3,.int .i64 v3],.map (mp (R9 (nh k7.lU)) r1),.map (mp (R9 (nh k7.lU)) r2),.map (mp K2 r3)],0,[]⟩
abbrev Wy:=(List k7)->Int->Int->Int->Tb->Tb->Ta->Option TY
abbrev aiK(K:List Kt)(Z:Wy):Prop:=∀v0 v1 v2 v3 r1 r2 r3,run (Yg n) K (Wx v0 v1 v2 v3 r1 r2 r3)=Z v0 v1 v2 v3 r1 r2 r3
def CZ:LB (aiK n) [0,1,0,1,1] [.wF 0,.cut [1,1,1],.at [1,1,1]]:=mB
def C0:Nat->Wy:=C4 ((CZ n).1)
def RF{n:Nat}:C0 n (m+1)=(CZ n).1 (C0 n m):=rfl
@[go_sem]def aen(m:Nat):=EV (CZ n) (C0 n) m
def NX:SX (Yg n) (nu (nA k7.row) lX) Ex 20 I8:=mC
def DH:=fu fun n=>(NX n).1
def MH:∀n:Nat,wE gJ 35 (nu (nA k7.row) lX) Ex false Ex Gu nq (nC 0 (alK (.bool true) aAr lX)) (I8 (DH n)):=adE fun n=>aMe (NX n) (gd (k8 (nJ (RE n)) (k8 (nJ (agN n)) li)) lj) func35 ntmps35 results35
@[go_sem]def Gv:=(nu oa (nu (oe .i64) (nu (oe .i64) (nu (nA k7.row) lX))))
@[go_sem]abbrev Ja(F:lH->Int->Int->(List k7)->Option T1d)(b:Unit)(a:(lH×(Int×(Int×TH)))):=F a.1 a.2.1 a.2.2.1 a.2.2.2.1
@[go_sem]def Yh(F:lH->Int->Int->(List k7)->Option T1d):=A7 true [] Ex Gv kY (nC 0 lX) Ex lr (Ja F)
@[reducible] def akf:mg T1d:=qj gJ f43 n (tO gJ [.tmp 8] [.arg 0 []] [] 0 kY (nC 0 lX)) (cl:=oN [(55,rB (nA k7.row) (nA mJ) (Bu n))]) (ua:=tP [] [] 0 Ex lr) (cp:=DR [(81,Yf (Sp n))]) (zV:=oR [81])
def NY:SX (akf n) Gv Ex 21 Ja:=Ea
def Sq:=fu fun n=>(NY n).1
def aiL:∀n:Nat,wE gJ 43 Gv Ex true kY (nC 0 lX) Ex lr (Ja (Sq n)):=adE fun n=>Iq (NY n) (gd (k8 (oX (My n)) li) lj (p:=(lQ (mo (aiJ n)) nE))) func43 ntmps43 results43
@[go_sem]def qv:=(vV (EB (alA 2 lX)) (vV (EB (nC 3 lX)) (vV (ogA true ld.row) (vV (EB (V1 kZ.lU 6 lX)) Ex))))
@[go_sem]abbrev BQ(F:Tj->kZ->Option TJ)(b:(Unit×(Unit×(Tj×T6))))(a:Unit):=F b.2.2.1 b.2.2.2.1.1
@[go_sem]def Ni(F:Tj->kZ->Option TJ):=A7 true [.arg 0 [],.arg 1 [],.yj 0 0 [],.yj 1 0 []] qv (nC 0 (nC 1 lX)) qv lX qv lr (BQ F)
@[reducible] def sS:mg TJ:=qj gJ f331 n (tO gJ [] [] [0,1,2,3] 4 qv lX) (ua:=tP [] [0,1,2,3] 4 qv lr) (co:=Vc [(332,K3 [.arg 0 []] kY (nC 0 lX) kY (nu (nh ld.lU) lX) kY lr (vT (CY n)))]) (AI:=oR [332]) (AK:=oR [])
def aa5:yB (sS n) []=true:=kX
def aa6:DE (sS n) [] 1 2 0 4 1 4 2 4/\DE (sS n) [] 0 5 1 5 2 5 4 5:=⟨⟨kX,kX,kX,kX⟩,kX,kX,kX,kX⟩
def aa7:QU (sS n) [] 2 3=true/\QU (sS n) [] 2 4=true/\QU (sS n) [] 2 5=true/\aaa (sS n) [] 2=false:=⟨kX,kX,kX,kX⟩
attribute [go_sem] aa5 aa6 aa7
def FV:SX (sS n) (nC 0 (nC 1 lX)) qv 7 BQ:=Ea
def Jb:=fu fun n=>(FV n).1
def YZ:∀n:Nat,wE gJ 331 (nC 0 (nC 1 lX)) qv true qv lX qv lr (BQ (Jb n)):=adE fun n=>Iq (FV n) (gd li lj (c:=(qc (DQ (Qp n)) vK))) func331 ntmps331 results331
@[reducible] def aiM:mg TN:=qj gJ f328 n (tO gJ [.cell 2 112] [] [0] 1 kY (nu (nh ld.lU) lX)) (cl:=oN [(88,DP [0] (xo (CK kZ.lU) vI) (WK 0 MJ) (xo (CK kZ.lU) vI) (V0 oa KQ) (fun(b:Te) a=>(nV n) b.1)),(94,HJ (tV (rB (xM kZ.lU) (nh mG.lU) (oh n)))),(153,DP [0] (xo (CK kZ.lU) vI) (WK 0 (asT oa MJ)) (xo (CK kZ.lU) vI) (V0 p8 KQ) (fun(b:Te) a=>(oB n) b.1 a.1)),(207,HJ (tV (rB (xM kZ.lU) p8 (yT n))))]) (ua:=tP [] [0] 1 kY lr) (cp:=DR [(151,rM (qn n)),(327,Dj (uL n)),(332,Kd (CY n))]) (zV:=oR [151,327,332])
def MI:SX (aiM n) (nC 0 lX) kY 47 vT:=Ea
def KM:=fu fun n=>(MI n).1
def ahs:∀n:Nat,wE gJ 328 (nC 0 lX) kY true kY (nu (nh ld.lU) lX) kY lr (vT (KM n)):=adE fun n=>Iq (MI n) (gd (k8 (rR (fun b a r h=>(nZ n) b.1 r h)) (k8 (s9 (p4 (oH n))) (k8 (rR (fun b a r h=>(pJ n) b.1 a.1 r h)) (k8 (s9 (p4 (G9 n))) li)))) lj (p:=(lQ (mo (so n)) (lQ (mo (Hu n)) (lQ (mo (Qp n)) nE))))) func328 ntmps328 results328
open Go.Proofs
def akg{O:Type}{x:lC}{f:AV->Option O}:(l3 false 1 (x.cells.drop 3)).bind f=f (adG x.name):=by rw[lC.lB];rfl
def aeo{H:List lw}:ldV H l (adG x)=some {val:=adG x,rd:=[l]}:=by cases x<;>rfl
def aoS(J:k9)(o:Op):=pZ J o
def aHH:pZ J o=aoS J o:=rfl
def aub(J:k9):Op->Option (FuncId×List AV)
 | .call {callee:= .value f,args,..}=>match J.ev f with
   |.func (.func fid) first cap=>some (fid,first++args.toList.map J.ev++cap)
   |_=>none
 |_=>none
def azx:aoS J o=aub J o:=by
 cases o with
 |call c=>
  obtain⟨g,as_,ts⟩:=c;cases g with
  |value f=>unfold aoS pZ aub;rfl
  |_=>rfl
 |_=>rfl
def auc(J:k9)(o:Op):=Gf J o
def aKa:Gf J o=auc J o:=rfl
def azy(J:k9):Op->Option (Nat×List AV)
 | .call {callee:= .value f,args,..}=>match J.ev f with
   |.map l=>some (l,args.toList.map J.ev)
   |_=>none
 |_=>none
def aCb:auc J o=azy J o:=by
 cases o with
 |call c=>
  obtain⟨g,as_,ts⟩:=c;cases g with
  |value f=>unfold auc Gf azy;rfl
  |_=>rfl
 |_=>rfl
def aMq{a0 a1 a2 a3 a4 s a7 a8:AV}{h:List lw}{d:List (FuncId×List AV)}{ts:Array TypeId}:aoS ⟨[a0,a1,a2,a3,a4,adG x,s,a7,a8],h,l,d⟩ (.call {callee:=.value (.tmp 5),args:= #[.tmp 6],argTypes:=ts})=(x.bind fun y=>some (y.1,[.mj false 1 (mp mS y.2),s]))/\auc ⟨[a0,a1,a2,a3,a4,adG x,s,a7,a8],h,l,d⟩ (.call {callee:=.value (.tmp 5),args:= #[.tmp 6],argTypes:=ts})=none:=by cases x<;>exact⟨rfl,rfl⟩
attribute [go_sem high] aMq
attribute [go_sem low] azx aCb
@[reducible] def H9:mg T13:=qj gJ f185 n (ams gJ [.tmp 3] (xo (CK lC.lU) vI) (V0 p8 KQ) 1) (cl:=oN [(126,q6 (nA mJ) oa p8 (su n)),(128,q6 (nA mJ) oa p8 (wh n)),(168,q6 (nA mJ) oa p8 (sA n))])
def B5:{B:lH->lC->Option T13 //∀(a0:lH)(a1:lC),run (H9 n) [.at []] (ini ((asT oa (WK 0 MJ)).enc (a1,()) (a0,())) 9 ((xo (CK lC.lU) vI).enc (a1,())))=B a0 a1}:=by
 apply gX;intro a0 a1;simp (config:={maxSteps:=100000000}) only[go_sem,gO,gP,gK,gL,gQ,gR,gT,gU,gV,gM,gS,gW,f185,gN,mixed,↓akg,↓aeo,↓aHH,↓aKa,aub,azy];exact rfl
def zH:=fu fun n=>(B5 n).1
def Ss:∀(n:Nat)(a0:lH)(a1:lC)(r:T13),zH n a0 a1=some r->FnG gJ 185 ((asT oa (WK 0 MJ)).enc (a1,()) (a0,())) ((xo (CK lC.lU) vI).enc (a1,())) (fun o H'=>o=.ret (vJ ((V0 p8 KQ).enc r.1 r.2))/\H'=(xo (CK lC.lU) vI).enc r.1)
 |0,_,_,_,h=>by cases h
 |n+1,a0,a1,r,h=>by
  exact zy (M:=H9 n) ⟨(k8 (ni (wG n)) (k8 (ni (Hy n)) (k8 (ni (vn n)) li))),lj,qW _,rX _,uh,ui,uG,uw⟩ func185 rfl rfl (by simp only[go_sem,gO,gP,gK,gL,gQ,gR,gT,gU,gV,gM,gS,gW]) ((xo (CK lC.lU) vI).nb _ _) ntmps185 results185 (fun J hs=>Ze hs) (((B5 n).2 a0 a1).trans h)
open Go.Proofs
@[reducible] def afp:mg (lH×Int):=qj gJ f169 n (pR gJ [.cell 4 9,.cell 5 28] (ty2 oa (oe .i64))) (cl:=oN [(141,rB oa p8 (Sf n)),(219,rB (nh mm.lU) (ajQ 259 (xM mm.lU)) (aeX n)),(221,q6 (nh mm.lU) oa p8 (LI n)),(222,q6 (nh mm.lU) oa (nA mJ) (alx n)),(259,Wt (ZU n))]) (js:=aBN [([0,1,0,1,1],[(1,.ret)])])
@[go_sem]def aly:lkM (afp n) [0,1,0,1,1]=qN:=rfl
def afq:Vd (afp n) (nh mm.lU) oa 41:=mB
def ajv:=fu fun n=>(afq n).1
def amS:∀n:Nat,AW gJ 169 (nh mm.lU) oa (ty2 oa (oe .i64)) (ajv n):=EW fun n=>CN (afq n) (gd (k8 (oX (adV n)) (k8 (oX (ajX n)) (k8 (ni (Qj n)) (k8 (ni (aoz n)) (k8 (nJ (ahr n)) li))))) lj) func169 ntmps169 results169
@[reducible] def Yi:mg ((List k7)×Int):=qj gJ f9 n (pR gJ [.tmp 4,.tmp 5] (ty2 (nA k7.row) (oe .i64))) (cl:=oN [(36,LN (D3 n)),(37,DP [] vI (asT (nA mJ) MJ) (xo (oaT true mJ) vI) (rsA 0 (fun(b:Tm)=>b.1.length) KQ) (fun(b:Unit) a=>(G2 n) a.1))]) (cp:=DR [(35,I9 (DH n))]) (zV:=oR [35]) (AI:=oR []) (AK:=oR [38]) (ce:=ayR [(38,aBz (asT (nA k7.row) MJ) (xo (oaT true k7.row) vI) (rsA 0 (fun(b:TH)=>b.1.length) KQ) (fun a=>(G3 n) a.1))])
@[go_sem]def aqh:yB (Yi n) [0,1,1,1,1,1]=true:=kX
@[go_sem]def aqi:atS (Yi n) [0,1,1,1,1,1] 1 4 2 4:=⟨kX,kX⟩
def Qq:Vd (Yi n) (nA k7.row) (nh k7.lU) 31:=JT
def Qr:=fu fun n=>(Qq n).1
def aoA:∀n:Nat,AW gJ 9 (nA k7.row) (nh k7.lU) (ty2 (nA k7.row) (oe .i64)) (Qr n):=EW fun n=>CN (Qq n) (gd (k8 (nJ (RE n)) (k8 (rR (fun b a r h=>(K9 n) a.1 r h)) li)) lj (e:=(atC (aGO (fun a=>⟨(nA k7.row).nb 0 _,trivial⟩) (fun a r h=>(XE n) a.1 r h)) avY)) (p:=(lQ (mo (MH n)) nE))) func9 ntmps9 results9
def ZV:Ce:=⟨[],[],(zA::zA::zA::zK::py (zK::py (py (py (zA::zA::zA::zT (nA k7.row)::zK::zK::oZ (py (py (py (zA::zA::[]))))))))),[oT Syntax.lU,oD,oD,oD,oD,oM (nh k7.lU),oC [zK]],none,none⟩
@[reducible] def Hz:mg ((List Syntax)×Int):=qj gJ f232 n (pR gJ [.tmp 4,.tmp 5] (ty2 (nA Syntax.row) (oe .i64))) (cl:=oN [(268,apL 1 true 8 (FS (sN n)))]) (vc:=tK [([0,1,0,1,1,1],ZV)]) (cp:=DR [(35,I9 (DH n))]) (zV:=oR [35]) (AI:=oR []) (AK:=oR [])
def amT:an1 (Hz n) [0,1,0,0,1,1,0,0,1,0,1,1,1] [0,1,1,1,0,0,1,1,0,0,1,0,1,1,1]:=⟨kX,kX⟩
def amU:DE (Hz n) [0,1,0,0,1,1,0,0,1,0,1,1,1] 3 11 5 11 6 11 10 11/\aB1 (Hz n) [0,1,1,1,0,0,1,1,0,0,1,0,1,1,1] 3 7 5 7 6 7:=⟨⟨kX,kX,kX,kX⟩,kX,kX,kX⟩
attribute [go_sem] amT amU ZV
@[go_sem]abbrev ZW(v0:List k7)(v1 v2:Int)(o0:Syntax)(r5:List (lH×k7)):k9:=⟨(qA::qA::qA::.ptr 0 0::pM (.ptr 6 0::pM (pM (pM (qA::qA::qA::.mj false 4 (mp k7.cells v0)::.int .i64 v1::.int .i64 v2::pg (pM (pM (pM (qA::qA::[]))))))))),[.cells (Syntax.cells o0),.zU,.zU,.zU,.zU,.map (mp (R9 (nh k7.lU)) r5),.cells [.map 5]],0,[]⟩
abbrev ZX:=(List k7)->Int->Int->Syntax->Tb->Option ((List Syntax)×Int)
abbrev alz(K:List Kt)(Z:ZX):Prop:=∀v0 v1 v2 o0 r5,run (Hz n) K (ZW v0 v1 v2 o0 r5)=Z v0 v1 v2 o0 r5
def Fm:LB (alz n) [0,1,0,1,1,1] [.wF 0,.cut [1,1,1,1],.at [1,1,1,1]]:=JT
def Fo:Nat->ZX:=C4 ((Fm n).1)
def Wz{n:Nat}:Fo n (m+1)=(Fm n).1 (Fo n m):=rfl
@[go_sem]def aht(m:Nat):=EV (Fm n) (Fo n) m
def L7:Vd (Hz n) (nA k7.row) (nh Syntax.lU) 57:=JT
def D4:=fu fun n=>(L7 n).1
def alD:∀n:Nat,AW gJ 232 (nA k7.row) (nh Syntax.lU) (ty2 (nA Syntax.row) (oe .i64)) (D4 n):=EW fun n=>CN (L7 n) (gd (k8 (akX (nJ (Mp n))) li) lj (p:=(lQ (mo (MH n)) nE))) func232 ntmps232 results232
@[go_sem]def x9:Ce:=⟨[],[],(zK::zK::zA::zA::zK::py (py (zA::zA::[]))),[oT kZ.lU,oC [zK],oC [zK],oA ld.row],none,none⟩
@[go_sem]def rG:=(nC 0 (alF 331 (vlP 1 (vlP 2 vlN)) lX))
@[go_sem]def mN:=(vV (EB (V1 kZ.lU 6 lX)) (vV (EB (alA 3 lX)) (vV (EB (nC 0 lX)) (vV (ogA true ld.row) Ex))))
@[go_sem]abbrev rT(F:kZ->Tj->Option TA)(b:(Te×(Unit×(Unit×(Tj×Unit)))))(a:(Unit×Unit)):=F b.1.1 b.2.2.2.1
@[go_sem]def yG(F:kZ->Tj->Option TA):=A7 true [.arg 0 [],.arg 1 [0],.arg 1 [1],.yj 1 0 []] mN rG mN lX mN lr (rT F)
@[reducible] def yH:mg TA:=qj gJ f330 n (tO gJ [] [] [0,1,2,3] 4 mN lX) (cl:=oN [(153,DP [0] (xo (CK kZ.lU) vI) (WK 0 (asT oa MJ)) (xo (CK kZ.lU) vI) (V0 p8 KQ) (fun(b:Te) a=>(oB n) b.1 a.1))]) (vc:=tK [([0,1],x9)]) (ua:=tP [] [0,1,2,3] 4 mN lr) (cp:=DR [(82,nP (pO n)),(331,Ni (Jb n))]) (zV:=oR [82,331])
@[go_sem]abbrev ya(v0:Int)(o0:kZ)(r3:List ld)(c3:Nat):k9:=⟨(.ptr 0 0::.func (.func 331) [] [.ptr 1 0,.ptr 2 0]::qA::qA::.int .i64 v0::pM (pM (qA::qA::[]))),[.cells (kZ.cells o0),.cells [.nW 3 c3],.cells [.ptr 0 0],.nW true 2 (mp ld.cells r3)],4,[]⟩
abbrev yb:=Int->kZ->Tj->Option TA
abbrev FW(K:List Kt)(Z:yb):Prop:=∀v0 o0 r3 c3,c3=r3.length->run (yH n) K (ya v0 o0 r3 c3)=Z v0 o0 r3
def rH:LB (FW n) [0,1] [.wF 0]:=JT
def qf:Nat->yb:=C4 ((rH n).1)
def EO{n:Nat}:qf n (m+1)=(rH n).1 (qf n m):=rfl
@[go_sem]def Ez(m:Nat):=EV (rH n) (qf n) m
def uk:SX (yH n) rG mN 15 rT:=Ea
def uH:=fu fun n=>(uk n).1
def FX:∀n:Nat,wE gJ 330 rG mN true mN lX mN lr (rT (uH n)):=adE fun n=>Iq (uk n) (gd (k8 (rR (fun b a r h=>(pJ n) b.1 a.1 r h)) li) lj (p:=(lQ (mo (pV n)) (lQ (mo (YZ n)) nE)))) func330 ntmps330 results330
@[reducible] def acC:mg TX:=qj gJ f212 n (aHg (Xm [(251,Q7 [.arg 0 [],.arg 1 [],.arg 2 [],.arg 3 [],.yj 0 0 [],.yj 4 0 [],.yj 5 0 [],.yj 5 1 [],.yj 5 2 []] lN (nC 0 (nC 1 (nC 2 (nC 3 lX)))) lN lX (fun(b:Ti)(a:Unit)=>(CR n) b.2.1.1 b.2.2.1.1 b.2.2.2.1.1 b.2.2.2.2.1.1 b.2.2.2.2.1.2.1 b.2.2.2.2.2.1.1 b.2.2.2.2.2.2.1 b.2.2.2.2.2.2.2.1 b.2.2.2.2.2.2.2.2.1))]) (Xm [(251,Q7 [.arg 0 [],.arg 1 [],.arg 2 [],.arg 3 [],.yj 0 0 [],.yj 4 0 [],.yj 5 0 [],.yj 5 1 [],.yj 5 2 []] lN xb lN lX (fun(b:Ti)(a:(Unit×Unit))=>(AD n) a.1 b.2.1.1 b.2.2.1.1 b.2.2.2.1.1 b.2.2.2.2.1.1 b.2.2.2.2.1.2.1 b.2.2.2.2.2.1.1 b.2.2.2.2.2.2.1 b.2.2.2.2.2.2.2.1 b.2.2.2.2.2.2.2.2.1))]) gJ [.cell 4 37,.cell 5 3,.cell 6 28] (ty3 (nh Syntax.lU) (oe .i64) (oe .i64))) (ua:=aAn (Xm [(251,Q7 [.arg 0 [],.arg 1 [],.arg 2 [],.arg 3 [],.yj 0 0 [],.yj 4 0 [],.yj 5 0 [],.yj 5 1 [],.yj 5 2 []] lN (nC 0 (nC 1 (nC 2 (nC 3 lX)))) lN lX (fun(b:Ti)(a:Unit)=>(CR n) b.2.1.1 b.2.2.1.1 b.2.2.2.1.1 b.2.2.2.2.1.1 b.2.2.2.2.1.2.1 b.2.2.2.2.2.1.1 b.2.2.2.2.2.2.1 b.2.2.2.2.2.2.2.1 b.2.2.2.2.2.2.2.2.1))]) (Xm [(251,Q7 [.arg 0 [],.arg 1 [],.arg 2 [],.arg 3 [],.yj 0 0 [],.yj 4 0 [],.yj 5 0 [],.yj 5 1 [],.yj 5 2 []] lN xb lN lX (fun(b:Ti)(a:(Unit×Unit))=>(AD n) a.1 b.2.1.1 b.2.2.1.1 b.2.2.2.1.1 b.2.2.2.2.1.1 b.2.2.2.2.1.2.1 b.2.2.2.2.2.1.1 b.2.2.2.2.2.2.1 b.2.2.2.2.2.2.2.1 b.2.2.2.2.2.2.2.2.1))]) gJ [.cell 4 37,.cell 5 3,.cell 6 28] (ty3 (nh Syntax.lU) (oe .i64) (oe .i64))) (cp:=DR [(35,I9 (DH n)),(252,Df (qx n))]) (zV:=oR [35,252])
def St:{B:(List k7)->(List Syntax)->Option TX //∀(a0:(List k7))(a1:(List Syntax)),run (acC n) [.at []] (ini [(nA k7.row).enc a0,(nA Syntax.row).enc a1] 42)=B a0 a1}:=JT
def HA:=fu fun n=>(St n).1
def alE:∀(n:Nat)(a0:(List k7))(a1:(List Syntax))(r:TX),HA n a0 a1=some r->N6 gJ 212 [(nA k7.row).enc a0,(nA Syntax.row).enc a1] (fun v=>v=(ty3 (nh Syntax.lU) (oe .i64) (oe .i64)).enc r)
 |0,_,_,_,h=>by cases h
 |n+1,a0,a1,r,h=>by
  exact awt (M:=acC n) (t:=(ty3 (nh Syntax.lU) (oe .i64) (oe .i64))) (cr:=(Xm [(251,Q7 [.arg 0 [],.arg 1 [],.arg 2 [],.arg 3 [],.yj 0 0 [],.yj 4 0 [],.yj 5 0 [],.yj 5 1 [],.yj 5 2 []] lN (nC 0 (nC 1 (nC 2 (nC 3 lX)))) lN lX (fun(b:Ti)(a:Unit)=>(CR n) b.2.1.1 b.2.2.1.1 b.2.2.2.1.1 b.2.2.2.2.1.1 b.2.2.2.2.1.2.1 b.2.2.2.2.2.1.1 b.2.2.2.2.2.2.1 b.2.2.2.2.2.2.2.1 b.2.2.2.2.2.2.2.2.1))])) (cp:=(Xm [(251,Q7 [.arg 0 [],.arg 1 [],.arg 2 [],.arg 3 [],.yj 0 0 [],.yj 4 0 [],.yj 5 0 [],.yj 5 1 [],.yj 5 2 []] lN xb lN lX (fun(b:Ti)(a:(Unit×Unit))=>(AD n) a.1 b.2.1.1 b.2.2.1.1 b.2.2.2.1.1 b.2.2.2.2.1.1 b.2.2.2.2.1.2.1 b.2.2.2.2.2.1.1 b.2.2.2.2.2.2.1 b.2.2.2.2.2.2.2.1 b.2.2.2.2.2.2.2.2.1))])) ⟨li,lj,qW _,rX _,uh,ui,(lQ (mo (MH n)) (lQ (mo (acm n)) nE)),uw⟩ (Pq (abE amk (fun _ _ _ _=>rfl) (kX) (fun b a r h=>(adR n) b.2.1.1 b.2.2.1.1 b.2.2.2.1.1 b.2.2.2.2.1.1 b.2.2.2.2.1.2.1 b.2.2.2.2.2.1.1 b.2.2.2.2.2.2.1 b.2.2.2.2.2.2.2.1 b.2.2.2.2.2.2.2.2.1 r h)) Ua) (Pq (abE aml (fun _ _ _ _=>rfl) (kX) (fun b a r h=>(adS n) a.1 b.2.1.1 b.2.2.1.1 b.2.2.2.1.1 b.2.2.2.2.1.1 b.2.2.2.2.1.2.1 b.2.2.2.2.2.1.1 b.2.2.2.2.2.2.1 b.2.2.2.2.2.2.2.1 b.2.2.2.2.2.2.2.2.1 r h)) Ua) func212 rfl rfl ⟨(nA k7.row).nb 0 _,(nA Syntax.row).nb 0 _,trivial⟩ ntmps212 results212 rfl rfl (((St n).2 a0 a1).trans h)
@[go_sem]def vq:Ce:=⟨[],[],(zT (nA mJ)::zK::py (zA::zK::zK::py (py (zA::zA::[])))),[oT lC.lU],none,none⟩
@[go_sem]def nn:=(nu (nA mJ) (alF 185 (vlP 0 vlN) lX))
@[go_sem]def lY:=(vV (EB (V1 lC.lU 4 lX)) Ex)
@[go_sem]abbrev qt(F:(List lH)->lC->Option T1f)(b:TC)(a:((List lH)×(Unit×Unit))):=F a.1 b.1.1
@[go_sem]def vL(F:(List lH)->lC->Option T1f):=Im [.arg 1 [0]] lY nn lY (nu (oe .i64) lX) (qt F)
@[reducible] def vM:mg T1f:=qj gJ f39 n (yK gJ [.tmp 4] [] [0] 1 lY (nu (oe .i64) lX)) (cl:=oN [(185,DP [1] (xo (CK lC.lU) vI) (asT oa (WK 0 MJ)) (xo (CK lC.lU) vI) (V0 p8 KQ) (fun(b:(lC×Unit)) a=>(zH n) a.1 b.1))]) (vc:=tK [([0,1,0,1],vq)])
@[go_sem]abbrev vu(v0:List lH)(v1 v2:Int)(o0:lC):k9:=⟨(.mj false 1 (mp mS v0)::.func (.func 185) [] [.ptr 0 0]::pM (qA::.int .i64 v1::.int .i64 v2::pM (pM (qA::qA::[])))),[.cells (lC.cells o0)],1,[]⟩
abbrev vz:=(List lH)->Int->Int->lC->Option T1f
abbrev CI(K:List Kt)(Z:vz):Prop:=∀v0 v1 v2 o0,run (vM n) K (vu v0 v1 v2 o0)=Z v0 v1 v2 o0
def oV:LB (CI n) [0,1,0,1] [.wF 0,.cut [1,1],.at [1,1]]:=mB
def oW:Nat->vz:=C4 ((oV n).1)
def uM{n:Nat}:oW n (m+1)=(oV n).1 (oW n m):=rfl
@[go_sem]def BR(m:Nat):=EV (oV n) (oW n) m
def sI:SX (vM n) nn lY 19 qt:=mC
def sY:=fu fun n=>(sI n).1
def CJ:∀n:Nat,AX gJ 39 nn lY lY (nu (oe .i64) lX) (qt (sY n)):=Ve fun n=>GR (sI n) (gd (k8 (rR (fun b a r h=>(Ss n) a.1 b.1 r h)) li) lj) func39 ntmps39 results39
open Go.Proofs
@[reducible] def aa8:mg Int:=qj gJ f107 n (pR gJ [.tmp 4] (oe .i64)) (cl:=oN [(79,q6 (nA mJ) oa p8 (qQ n)),(126,q6 (nA mJ) oa p8 (su n)),(169,q6 (nh mm.lU) oa (ty2 oa (oe .i64)) (ajv n))])
def Nj:Vd (aa8 n) (xM lA.lU) oa 40:=mB
def Qs:=fu fun n=>(Nj n).1
def aOS:∀n:Nat,AW gJ 107 (xM lA.lU) oa (oe .i64) (Qs n):=EW fun n=>CN (Nj n) (gd (k8 (ni (sw n)) (k8 (ni (wG n)) (k8 (ni (amS n)) li))) lj) func107 ntmps107 results107
@[go_sem]def Yj:Ce:=⟨[],[],(zA::zA::zA::zT (nA k7.row)::py (zT (nA k7.row)::zK::zK::py (py (py (zA::[]))))),[],none,none⟩
@[reducible] def ZY:mg Bool:=qj gJ f69 n (pR gJ [.tmp 2] p8) (cl:=oN [(9,q6 (nA k7.row) (nh k7.lU) (ty2 (nA k7.row) (oe .i64)) (Qr n))]) (vc:=tK [([0,1,0,1,1],Yj)])
@[go_sem]abbrev Yk(v0 v1:List k7)(v2 v3:Int):k9:=⟨(qA::qA::qA::.mj false 4 (mp k7.cells v0)::pM (.mj false 4 (mp k7.cells v1)::.int .i64 v2::.int .i64 v3::pM (pM (pM (qA::[]))))),[],0,[]⟩
abbrev Yl:=(List k7)->(List k7)->Int->Int->Option Bool
abbrev akh(K:List Kt)(Z:Yl):Prop:=∀v0 v1 v2 v3,run (ZY n) K (Yk v0 v1 v2 v3)=Z v0 v1 v2 v3
def D5:LB (akh n) [0,1,0,1,1] [.wF 0,.cut [1,1,1],.at [1,1,1]]:=mB
def D6:Nat->Yl:=C4 ((D5 n).1)
def UP{n:Nat}:D6 n (m+1)=(D5 n).1 (D6 n m):=rfl
@[go_sem]def afS(m:Nat):=EV (D5 n) (D6 n) m
def Qt:SC1 (ZY n) (nA k7.row) 24:=mB
def NF:=fu fun n=>(Qt n).1
def aki:∀n:Nat,EE gJ 69 (nA k7.row) p8 (NF n):=GQ fun n=>F4 (Qt n) (gd (k8 (ni (aoA n)) li) lj) func69 ntmps69 results69
@[go_sem]abbrev Dq(F:Syntax->(List k7)->Bool->lH->Option (T8×TE))(b:T8)(a:(Syntax×Unit)):=F a.1 b.1.1 b.1.2.1 b.2.1
@[go_sem]def Qu(F:Syntax->(List k7)->Bool->lH->Option (T8×TE)):=Im [.arg 0 [],.yj 0 1 []] lh (nC 0 (nu (nh Syntax.lU) lX)) lh (nu (nA Syntax.row) (nu p8 lX)) (Dq F)
@[reducible] def Qv:mg (T8×TE):=qj gJ f188 n (yK gJ [.tmp 4,.tmp 5] [] [0,1] 2 lh (nu (nA Syntax.row) (nu p8 lX))) (cd:=KO [(232,tV (q6 (nA k7.row) (nh Syntax.lU) (ty2 (nA Syntax.row) (oe .i64)) (D4 n)))]) (AI:=oR []) (AK:=oR [])
@[go_sem]def aep:an1 (Qv n) [0,1] [0,1,1,1]:=⟨kX,kX⟩
def Dr:SX (Qv n) (nC 0 (nu (nh Syntax.lU) lX)) lh 38 Dq:=mC
def zf:=fu fun n=>(Dr n).1
def acD:∀n:Nat,AX gJ 188 (nC 0 (nu (nh Syntax.lU) lX)) lh lh (nu (nA Syntax.row) (nu p8 lX)) (Dq (zf n)):=Ve fun n=>GR (Dr n) (gd li (ot (vg (alD n)) lj)) func188 ntmps188 results188
@[go_sem]abbrev Ds(F:kZ->Option T18)(b:T6)(a:Unit):=F b.1.1
@[go_sem]def Qw(F:kZ->Option T18):=A7 true [.arg 0 []] kY (nC 0 lX) kY (nu (nA ld.row) lX) kY lr (Ds F)
@[reducible] def aeq:mg T18:=qj gJ f325 n (tO gJ [.tmp 2] [] [0] 1 kY (nu (nA ld.row) lX)) (cl:=oN [(153,DP [0] (xo (CK kZ.lU) vI) (WK 0 (asT oa MJ)) (xo (CK kZ.lU) vI) (V0 p8 KQ) (fun(b:Te) a=>(oB n) b.1 a.1))]) (cut:=ap1 [] [([1,1,1],2,0,2,true)]) (ua:=tP [] [0] 1 kY lr) (cp:=DR [(151,rM (qn n)),(330,yG (uH n))]) (zV:=oR [151,330])
def Jc:SX (aeq n) (nC 0 lX) kY 19 Ds:=Ea
def Fp:=fu fun n=>(Jc n).1
def acE:∀n:Nat,wE gJ 325 (nC 0 lX) kY true kY (nu (nA ld.row) lX) kY lr (Ds (Fp n)):=adE fun n=>Iq (Jc n) (gdM (k8 (rR (fun b a r h=>(pJ n) b.1 a.1 r h)) li) lj (p:=(lQ (mo (so n)) (lQ (mo (FX n)) nE)))) func325 ntmps325 results325
@[go_sem]abbrev qd(F:(List lH)->lC->Option (TC×(Bool×Unit)))(b:TC)(a:((List lH)×(Unit×Unit))):=F a.1 b.1.1
@[go_sem]def uN(F:(List lH)->lC->Option (TC×(Bool×Unit))):=Im [.arg 1 [0]] lY nn lY (nu p8 lX) (qd F)
@[reducible] def B6:mg (TC×(Bool×Unit)):=qj gJ f10 n (yK gJ [.tmp 4] [] [0] 1 lY (nu p8 lX)) (cl:=oN [(39,vL (sY n))])
def rN:SX (B6 n) nn lY 9 qd:=mC
def qi:=fu fun n=>(rN n).1
def BS:∀n:Nat,AX gJ 10 nn lY lY (nu p8 lX) (qd (qi n)):=Ve fun n=>GR (rN n) (gd (k8 (nJ (CJ n)) li) lj) func10 ntmps10 results10
open Go.Proofs
@[go_sem]abbrev ny(F:Syntax->(List k7)->Bool->lH->Option (T8×Unit))(b:T8)(a:(Syntax×Unit)):=F a.1 b.1.1 b.1.2.1 b.2.1
@[go_sem]def pm(F:Syntax->(List k7)->Bool->lH->Option (T8×Unit)):=Im [.arg 0 [],.yj 0 1 []] lh (nC 0 (nu (nh Syntax.lU) lX)) lh lX (ny F)
@[go_sem]def pK:=(nC 0 (nu oa (alB 71 (vlP 0 vlN) (nu (nh Syntax.lU) (nu oa lX)))))
@[go_sem]abbrev lW(F:lH->Syntax->lH->(List k7)->Bool->lH->Option (T8×Unit))(b:T8)(a:T12):=F a.1 a.2.2.1 a.2.2.2.1 b.1.1 b.1.2.1 b.2.1
@[go_sem]def pQ(F:lH->Syntax->lH->(List k7)->Bool->lH->Option (T8×Unit)):=Im [.arg 0 [],.yj 0 1 []] lh pK lh lX (lW F)
@[go_sem]def qT:=(nC 0 (nu oa (alB 134 (vlP 0 vlN) (nu (nh Syntax.lU) (nu oa lX)))))
@[go_sem]def vA(F:lH->Syntax->lH->(List k7)->Bool->lH->Option (T8×Unit)):=Im [.arg 0 [],.yj 0 1 []] lh qT lh lX (lW F)
@[go_sem]def qz:=(nC 0 (nu oa (alB 233 (vlP 0 vlN) (nu (nh Syntax.lU) (nu oa lX)))))
@[go_sem]def zQ(F:lH->Syntax->lH->(List k7)->Bool->lH->Option (T8×Unit)):=Im [.arg 0 [],.yj 0 1 []] lh qz lh lX (lW F)
@[go_sem]abbrev Av(F:(List Syntax)->(List k7)->Bool->lH->Option (T8×Unit))(b:T8)(a:Tt):=F a.1 b.1.1 b.1.2.1 b.2.1
@[go_sem]def Jd(F:(List Syntax)->(List k7)->Bool->lH->Option (T8×Unit)):=Im [.arg 0 [],.yj 0 1 []] lh (nC 0 (nu (nA Syntax.row) lX)) lh lX (Av F)
@[go_sem]def pe:=(nC 0 (nu oa (alB 299 (vlP 0 vlN) (nu (nh Syntax.lU) (nu oa lX)))))
@[go_sem]def yI(F:lH->Syntax->lH->(List k7)->Bool->lH->Option (T8×Unit)):=Im [.arg 0 [],.yj 0 1 []] lh pe lh lX (lW F)
structure lP where
 nH:Syntax->(List k7)->Bool->lH->Option (T8×Unit)
 lT:lH->Syntax->lH->(List k7)->Bool->lH->Option (T8×Unit)
 tg:Syntax->(List k7)->Bool->lH->Option (T8×Unit)
 mU:lH->Syntax->lH->(List k7)->Bool->lH->Option (T8×Unit)
 pE:Syntax->(List k7)->Bool->lH->Option (T8×Unit)
 oI:Syntax->(List k7)->Bool->lH->Option (T8×Unit)
 pN:Syntax->(List k7)->Bool->lH->Option (T8×Unit)
 ng:lH->Syntax->lH->(List k7)->Bool->lH->Option (T8×Unit)
 sU:(List Syntax)->(List k7)->Bool->lH->Option (T8×Unit)
 nN:Syntax->(List k7)->Bool->lH->Option (T8×Unit)
 mL:lH->Syntax->lH->(List k7)->Bool->lH->Option (T8×Unit)
open Go.Proofs
@[reducible] def Em(X:lP)(n:Nat):mg (T8×Unit):=qj gJ f71 n (yK gJ [] [] [0,1] 2 lh lX) (cl:=oN [(71,pm X.nH),(131,rK (nU n)),(132,pQ X.lT),(133,pm X.tg),(134,pm X.pE)]) (co:=Vc [(132,K3 [.arg 0 [],.yj 0 1 []] lh pK lh lX lh lX (fun(b:T8)(a:T12)=>(X.lT a.1 a.2.2.1 a.2.2.2.1 b.1.1 b.1.2.1 b.2.1).map fun r=>(PR.ok r:PR (T8×Unit) (T8×Unit))))]) (AI:=oR [132]) (AK:=oR [])
@[go_sem]def afT(X:lP)(n:Nat):an1 (Em X n) [0,0,1,1,1,1,1,0,1,1,1,1] [1,1,0,0,1,0,1,1,1,1]:=⟨kX,kX⟩
@[go_sem]def afU(X:lP)(n:Nat):DE (Em X n) [0,0,1,1,1,1,1,0,1,1,1,1] 2 11 8 11 9 11 10 11/\DE (Em X n) [1,1,0,0,1,0,1,1,1,1] 2 11 8 11 9 11 10 11:=⟨⟨kX,kX,kX,kX⟩,kX,kX,kX,kX⟩
def Bn(X:lP)(n:Nat):SX (Em X n) (nC 0 (nu (nh Syntax.lU) lX)) lh 120 ny:=Ea
open Go.Proofs
@[reducible] def HP(X:lP)(n:Nat):mg (T8×Unit):=qj gJ f132 n (yK gJ [] [] [0,1] 2 lh lX) (cl:=oN [(71,pm X.nH),(131,rK (nU n))])
def sD(X:lP)(n:Nat):SX (HP X n) pK lh 21 lW:=mC
open Go.Proofs
@[reducible] def acF(X:lP)(n:Nat):mg (T8×Unit):=qj gJ f133 n (yK gJ [] [] [0,1] 2 lh lX) (cl:=oN [(132,R7 (pQ X.lT) (vA X.mU)),(134,pm X.pE)])
def Cx(X:lP)(n:Nat):SX (acF X n) (nC 0 (nu (nh Syntax.lU) lX)) lh 51 ny:=mC
open Go.Proofs
@[reducible] def JI(X:lP)(n:Nat):mg (T8×Unit):=qj gJ f132 n (yK gJ [] [] [0,1] 2 lh lX) (cl:=oN [(131,rK (nU n)),(134,pm X.pE)])
def s3(X:lP)(n:Nat):SX (JI X n) qT lh 21 lW:=mC
open Go.Proofs
@[go_sem]def UQ:Ce:=⟨[],[],(zK::oZ (oZ (zT (nA Syntax.row)::zK::zK::oZ (oZ (py (zA::[])))))),[oC [zK,zK,zT (nA k7.row),zK],oY],none,none⟩
@[reducible] def WA(X:lP)(n:Nat):mg (T8×Unit):=qj gJ f134 n (yK gJ [] [] [0,1] 2 lh lX) (cl:=oN [(127,rB (oe .i64) p8 (FG n)),(131,rK (nU n)),(132,R7 (pQ X.lT) (vA X.mU)),(188,Qu (zf n)),(189,pm X.oI)]) (vc:=tK [([0,1,1,1,1,1,1],UQ)])
@[go_sem]abbrev UR(v0:List Syntax)(v1 v2:Int)(v3:List k7)(v4:Bool)(r1:lH)(c1:Nat):k9:=⟨(.ptr 0 0::pg (pg (.mj false 8 (mp Syntax.cells v0)::.int .i64 v1::.int .i64 v2::pg (pg (pM (qA::[])))))),[.cells [.sn 141 0,.nW 1 c1,.mj false 4 (mp k7.cells v3),.bool v4],.L8 (sb r1)],2,[]⟩
abbrev Fq:=(List Syntax)->Int->Int->(List k7)->Bool->lH->Option (T8×Unit)
abbrev ahu(X:lP)(n:Nat)(K:List Kt)(Z:Fq):Prop:=∀v0 v1 v2 v3 v4 r1 c1,c1=r1.length->run (WA X n) K (UR v0 v1 v2 v3 v4 r1 c1)=Z v0 v1 v2 v3 v4 r1
def B7(X:lP)(n:Nat):LB (ahu X n) [0,1,1,1,1,1,1] [.wF 0]:=mB
def sV(X:lP)(n:Nat):Nat->Fq:=C4 ((B7 X n).1)
def Qx(X:lP){n:Nat}:sV X n (m+1)=(B7 X n).1 (sV X n m):=rfl
@[go_sem]def acG(X:lP)(n:Nat)(m:Nat):=EV (B7 X n) (sV X n) m
def Gw(X:lP)(n:Nat):SX (WA X n) (nC 0 (nu (nh Syntax.lU) lX)) lh 73 ny:=mC
open Go.Proofs
@[reducible] def ahv(X:lP)(n:Nat):mg (T8×Unit):=qj gJ f189 n (yK gJ [] [] [0,1] 2 lh lX) (cl:=oN [(131,rK (nU n)),(189,pm X.oI),(233,pm X.pN),(234,rB (nh ld.lU) oa (M1 n)),(235,q6 oa oa p8 (strings_ContainsAny n))])
def Fs(X:lP)(n:Nat):SX (ahv X n) (nC 0 (nu (nh Syntax.lU) lX)) lh 62 ny:=mC
open Go.Proofs
@[go_sem]def Qy:Ce:=⟨[(4,1,true)],[],(zK::zA::zA::zA::zK::oZ (py (py (zA::zA::zA::zT (nA ld.row)::zK::zK::Ip (oZ (oZ (py (py (zA::[]))))))))),[oC [zK,zK,zT (nA k7.row),zK],oY,oD,oA mJ],none,none⟩
@[reducible] def RG(X:lP)(n:Nat):mg (T8×Unit):=qj gJ f233 n (yK gJ [] [] [0,1] 2 lh lX) (cl:=oN [(131,rK (nU n)),(132,R7 (zQ X.ng) (pQ X.lT)),(170,rB (oe .i64) oa (strconv_Itoa n)),(234,rB (nh ld.lU) oa (M1 n)),(260,q6 (nA mJ) oa oa (strings_Join n)),(269,Jd X.sU)]) (vc:=tK [([0,1,0,1,1,1,0,1,0,1,1,1],Qy)])
@[go_sem]abbrev Qz(v0:List ld)(v1 v2:Int)(v3:List k7)(v4:Bool)(r1:lH)(r3:List lH)(c1:Nat)(c3:Nat):k9:=⟨(.ptr 0 0::qA::qA::qA::.nW 3 c3::pg (pM (pM (qA::qA::qA::.mj false 2 (mp ld.cells v0)::.int .i64 v1::.int .i64 v2::Io (pg (pg (pM (pM (qA::[]))))))))),[.cells [.sn 141 0,.nW 1 c1,.mj false 4 (mp k7.cells v3),.bool v4],.L8 (sb r1),.zU,.nW true 1 (mp mS r3)],2,[]⟩
@[go_sem]abbrev QA:List Kt:=[.wF 1,.cut [1,1,1,1,0,1,0,1,1,1],.at [1,1,1,1,0,1,0,1,1,1],.wF 0]
abbrev QB:=Tj->Int->Int->(List k7)->Bool->lH->(List lH)->Option (T8×Unit)
abbrev aer(X:lP)(n:Nat)(K:List Kt)(Z:QB):Prop:=∀v0 v1 v2 v3 v4 r1 r3 c1 c3,c1=r1.length->c3=r3.length->run (RG X n) K (Qz v0 v1 v2 v3 v4 r1 r3 c1 c3)=Z v0 v1 v2 v3 v4 r1 r3
def Aw(X:lP)(n:Nat):LB (aer X n) [0,1,0,1,1,1,0,1,0,1,1,1] QA:=mB
def va(X:lP)(n:Nat):Nat->QB:=C4 ((Aw X n).1)
def Nk(X:lP){n:Nat}:va X n (m+1)=(Aw X n).1 (va X n m):=rfl
@[go_sem]def aOT(X:lP)(n:Nat)(m:Nat):=EV (Aw X n) (va X n) m
def En(X:lP)(n:Nat):SX (RG X n) (nC 0 (nu (nh Syntax.lU) lX)) lh 140 ny:=mC
open Go.Proofs
@[reducible] def HQ(X:lP)(n:Nat):mg (T8×Unit):=qj gJ f132 n (yK gJ [] [] [0,1] 2 lh lX) (cl:=oN [(131,rK (nU n)),(233,pm X.pN)])
def sE(X:lP)(n:Nat):SX (HQ X n) qz lh 21 lW:=mC
open Go.Proofs
@[go_sem]def OO:Ce:=⟨[],[],(zK::zT (nA Syntax.row)::py (zA::zA::zA::zT (nA Syntax.row)::zK::zK::oZ (py (zA::zA::[])))),[oC [zK,zK,zT (nA k7.row),zK],oY],none,none⟩
@[reducible] def QD(X:lP)(n:Nat):mg (T8×Unit):=qj gJ f269 n (yK gJ [] [] [0,1] 2 lh lX) (cl:=oN [(131,rK (nU n)),(299,pm X.nN)]) (vc:=tK [([0,1,0,1],OO)])
@[go_sem]abbrev OP(v0 v1:List Syntax)(v2 v3:Int)(v4:List k7)(v5:Bool)(r1:lH)(c1:Nat):k9:=⟨(.ptr 0 0::.mj false 8 (mp Syntax.cells v0)::pM (qA::qA::qA::.mj false 8 (mp Syntax.cells v1)::.int .i64 v2::.int .i64 v3::pg (pM (qA::qA::[])))),[.cells [.sn 141 0,.nW 1 c1,.mj false 4 (mp k7.cells v4),.bool v5],.L8 (sb r1)],2,[]⟩
abbrev OQ:=(List Syntax)->(List Syntax)->Int->Int->(List k7)->Bool->lH->Option (T8×Unit)
abbrev acH(X:lP)(n:Nat)(K:List Kt)(Z:OQ):Prop:=∀v0 v1 v2 v3 v4 v5 r1 c1,c1=r1.length->run (QD X n) K (OP v0 v1 v2 v3 v4 v5 r1 c1)=Z v0 v1 v2 v3 v4 v5 r1
def zg(X:lP)(n:Nat):LB (acH X n) [0,1,0,1] [.wF 0,.cut [1,1],.at [1,1]]:=mB
def wA(X:lP)(n:Nat):Nat->OQ:=C4 ((zg X n).1)
def Mr(X:lP){n:Nat}:wA X n (m+1)=(zg X n).1 (wA X n m):=rfl
@[go_sem]def Ym(X:lP)(n:Nat)(m:Nat):=EV (zg X n) (wA X n) m
def Dt(X:lP)(n:Nat):SX (QD X n) (nC 0 (nu (nA Syntax.row) lX)) lh 34 Av:=mC
open Go.Proofs
def Nl:Ce:=⟨[],[],(zK::oZ (py (zA::zA::zT (nA Syntax.row)::zK::zK::oZ (oZ (oZ (py (zA::zA::[]))))))),[oC [zK,zK,zT (nA k7.row),zK],oY],none,none⟩
@[reducible] def Cy(X:lP)(n:Nat):mg (T8×Unit):=qj gJ f299 n (yK gJ [] [] [0,1] 2 lh lX) (cl:=oN [(131,rK (nU n)),(132,R7 (pQ X.lT) (yI X.mL)),(260,q6 (nA mJ) oa oa (strings_Join n)),(269,Jd X.sU),(299,pm X.nN)]) (vc:=tK [([0,1,1,1,1,1,1,1,1,1,1,0,1,1,1],Nl)]) (co:=Vc [(132,K3 [.arg 0 [],.yj 0 1 []] lh pe lh lX lh lX (fun(b:T8)(a:T12)=>(X.mL a.1 a.2.2.1 a.2.2.2.1 b.1.1 b.1.2.1 b.2.1).map fun r=>(PR.ok r:PR (T8×Unit) (T8×Unit))))]) (AI:=oR [132]) (AK:=oR [])
def acI(X:lP)(n:Nat):yB (Cy X n) [0,1,1,1,1,1,1,1,0,1,1,1]=true:=kX
def acJ(X:lP)(n:Nat):DE (Cy X n) [0,1,1,1,1,1,1,1,0,1,1,1] 2 10 7 10 8 10 9 10:=⟨kX,kX,kX,kX⟩
attribute [go_sem] acI acJ Nl
@[go_sem]abbrev Nn(v0:List Syntax)(v1 v2:Int)(v3:List k7)(v4:Bool)(r1:lH)(c1:Nat):k9:=⟨(.ptr 0 0::pg (pM (qA::qA::.mj false 8 (mp Syntax.cells v0)::.int .i64 v1::.int .i64 v2::pg (pg (pg (pM (qA::qA::[]))))))),[.cells [.sn 141 0,.nW 1 c1,.mj false 4 (mp k7.cells v3),.bool v4],.L8 (sb r1)],2,[]⟩
abbrev aa9(X:lP)(n:Nat)(K:List Kt)(Z:Fq):Prop:=∀v0 v1 v2 v3 v4 r1 c1,c1=r1.length->run (Cy X n) K (Nn v0 v1 v2 v3 v4 r1 c1)=Z v0 v1 v2 v3 v4 r1
def yc(X:lP)(n:Nat):LB (aa9 X n) [0,1,1,1,1,1,1,1,1,1,1,0,1,1,1] [.wF 1,.wF 0]:=JT
def ue(X:lP)(n:Nat):Nat->Fq:=C4 ((yc X n).1)
def LR(X:lP){n:Nat}:ue X n (m+1)=(yc X n).1 (ue X n m):=rfl
@[go_sem]def aO6(X:lP)(n:Nat)(m:Nat):=EV (yc X n) (ue X n) m
def Cz(X:lP)(n:Nat):SX (Cy X n) (nC 0 (nu (nh Syntax.lU) lX)) lh 80 ny:=Ea
open Go.Proofs
@[reducible] def Gc(X:lP)(n:Nat):mg (T8×Unit):=qj gJ f132 n (yK gJ [] [] [0,1] 2 lh lX) (cl:=oN [(131,rK (nU n)),(299,pm X.nN)])
def rU(X:lP)(n:Nat):SX (Gc X n) pe lh 21 lW:=mC
open Go.Proofs
def lu:Nat->lP
 |0=>⟨Fu.z,Fu.z,Fu.z,Fu.z,Fu.z,Fu.z,Fu.z,Fu.z,Fu.z,Fu.z,Fu.z⟩
 |n+1=>⟨(Bn (lu n) n).1,(sD (lu n) n).1,(Cx (lu n) n).1,(s3 (lu n) n).1,(Gw (lu n) n).1,(Fs (lu n) n).1,(En (lu n) n).1,(sE (lu n) n).1,(Dt (lu n) n).1,(Cz (lu n) n).1,(rU (lu n) n).1⟩
def nH:Syntax->(List k7)->Bool->lH->Option (T8×Unit):=(lu n).nH
def RH{n:Nat}:nH (n+1)=(Bn (lu n) n).1:=rfl
def lT:lH->Syntax->lH->(List k7)->Bool->lH->Option (T8×Unit):=(lu n).lT
def HR{n:Nat}:lT (n+1)=(sD (lu n) n).1:=rfl
def tg:Syntax->(List k7)->Bool->lH->Option (T8×Unit):=(lu n).tg
def acK{n:Nat}:tg (n+1)=(Cx (lu n) n).1:=rfl
def mU:lH->Syntax->lH->(List k7)->Bool->lH->Option (T8×Unit):=(lu n).mU
def JJ{n:Nat}:mU (n+1)=(s3 (lu n) n).1:=rfl
def pE:Syntax->(List k7)->Bool->lH->Option (T8×Unit):=(lu n).pE
def aiN{n:Nat}:pE (n+1)=(Gw (lu n) n).1:=rfl
def oI:Syntax->(List k7)->Bool->lH->Option (T8×Unit):=(lu n).oI
def ahw{n:Nat}:oI (n+1)=(Fs (lu n) n).1:=rfl
def pN:Syntax->(List k7)->Bool->lH->Option (T8×Unit):=(lu n).pN
def afV{n:Nat}:pN (n+1)=(En (lu n) n).1:=rfl
def ng:lH->Syntax->lH->(List k7)->Bool->lH->Option (T8×Unit):=(lu n).ng
def HT{n:Nat}:ng (n+1)=(sE (lu n) n).1:=rfl
def sU:(List Syntax)->(List k7)->Bool->lH->Option (T8×Unit):=(lu n).sU
def aes{n:Nat}:sU (n+1)=(Dt (lu n) n).1:=rfl
def nN:Syntax->(List k7)->Bool->lH->Option (T8×Unit):=(lu n).nN
def acL{n:Nat}:nN (n+1)=(Cz (lu n) n).1:=rfl
def mL:lH->Syntax->lH->(List k7)->Bool->lH->Option (T8×Unit):=(lu n).mL
def Ge{n:Nat}:mL (n+1)=(rU (lu n) n).1:=rfl
def nj{n:Nat}:(lu n).nH=nH n/\(lu n).lT=lT n/\(lu n).tg=tg n/\(lu n).mU=mU n/\(lu n).pE=pE n/\(lu n).oI=oI n/\(lu n).pN=pN n/\(lu n).ng=ng n/\(lu n).sU=sU n/\(lu n).nN=nN n/\(lu n).mL=mL n:=⟨rfl,rfl,rfl,rfl,rfl,rfl,rfl,rfl,rfl,rfl,rfl⟩
def p9:∀n:Nat,AX gJ 71 (nC 0 (nu (nh Syntax.lU) lX)) lh lh lX (ny (lu n).nH)/\AX gJ 132 pK lh lh lX (lW (lu n).lT)/\AX gJ 133 (nC 0 (nu (nh Syntax.lU) lX)) lh lh lX (ny (lu n).tg)/\AX gJ 132 qT lh lh lX (lW (lu n).mU)/\AX gJ 134 (nC 0 (nu (nh Syntax.lU) lX)) lh lh lX (ny (lu n).pE)/\AX gJ 189 (nC 0 (nu (nh Syntax.lU) lX)) lh lh lX (ny (lu n).oI)/\AX gJ 233 (nC 0 (nu (nh Syntax.lU) lX)) lh lh lX (ny (lu n).pN)/\AX gJ 132 qz lh lh lX (lW (lu n).ng)/\AX gJ 269 (nC 0 (nu (nA Syntax.row) lX)) lh lh lX (Av (lu n).sU)/\AX gJ 299 (nC 0 (nu (nh Syntax.lU) lX)) lh lh lX (ny (lu n).nN)/\AX gJ 132 pe lh lh lX (lW (lu n).mL)
 |0=>⟨fun _ _ _ h=>(by cases h),fun _ _ _ h=>(by cases h),fun _ _ _ h=>(by cases h),fun _ _ _ h=>(by cases h),fun _ _ _ h=>(by cases h),fun _ _ _ h=>(by cases h),fun _ _ _ h=>(by cases h),fun _ _ _ h=>(by cases h),fun _ _ _ h=>(by cases h),fun _ _ _ h=>(by cases h),fun _ _ _ h=>(by cases h)⟩
 |n+1=>by
  obtain⟨QE,pL,aba,Ax,LS,RI,QF,HB,OR,FY,yd⟩:=p9 n
  exact⟨GR (Bn (lu n) n) (gd (k8 (nJ (QE)) (k8 (nJ (sk n)) (k8 (nJ (pL)) (k8 (nJ (aba)) (k8 (nJ (LS)) li))))) lj (c:=(qc (ak6 (pL)) vK))) func71 ntmps71 results71,
   GR (sD (lu n) n) (gd (k8 (nJ (QE)) (k8 (nJ (sk n)) li)) lj) func132 ntmps132 results132,
   GR (Cx (lu n) n) (gd (k8 (R8 (nJ (pL)) (nJ (Ax))) (k8 (nJ (LS)) li)) lj) func133 ntmps133 results133,
   GR (s3 (lu n) n) (gd (k8 (nJ (sk n)) (k8 (nJ (LS)) li)) lj) func132 ntmps132 results132,
   GR (Gw (lu n) n) (gd (k8 (oX (Se n)) (k8 (nJ (sk n)) (k8 (R8 (nJ (pL)) (nJ (Ax))) (k8 (nJ (acD n)) (k8 (nJ (RI)) li))))) lj) func134 ntmps134 results134,
   GR (Fs (lu n) n) (gd (k8 (nJ (sk n)) (k8 (nJ (RI)) (k8 (nJ (QF)) (k8 (oX (abM n)) (k8 (ni (aea n)) li))))) lj) func189 ntmps189 results189,
   GR (En (lu n) n) (gd (k8 (nJ (sk n)) (k8 (R8 (nJ (HB)) (nJ (pL))) (k8 (oX (Nz n)) (k8 (oX (abM n)) (k8 (ni (NA n)) (k8 (nJ (OR)) li)))))) lj) func233 ntmps233 results233,
   GR (sE (lu n) n) (gd (k8 (nJ (sk n)) (k8 (nJ (QF)) li)) lj) func132 ntmps132 results132,
   GR (Dt (lu n) n) (gd (k8 (nJ (sk n)) (k8 (nJ (FY)) li)) lj) func269 ntmps269 results269,
   GR (Cz (lu n) n) (gd (k8 (nJ (sk n)) (k8 (R8 (nJ (pL)) (nJ (yd))) (k8 (ni (NA n)) (k8 (nJ (OR)) (k8 (nJ (FY)) li))))) lj (c:=(qc (ak6 (yd)) vK))) func299 ntmps299 results299,
   GR (rU (lu n) n) (gd (k8 (nJ (sk n)) (k8 (nJ (FY)) li)) lj) func132 ntmps132 results132⟩
def aet:AX gJ 71 (nC 0 (nu (nh Syntax.lU) lX)) lh lh lX (ny (nH n)):=(p9 n).1
def acM:AX gJ 132 pK lh lh lX (lW (lT n)):=(p9 n).2.1
def arz:AX gJ 133 (nC 0 (nu (nh Syntax.lU) lX)) lh lh lX (ny (tg n)):=(p9 n).2.2.1
def aeu:AX gJ 132 qT lh lh lX (lW (mU n)):=(p9 n).2.2.2.1
def awY:AX gJ 134 (nC 0 (nu (nh Syntax.lU) lX)) lh lh lX (ny (pE n)):=(p9 n).2.2.2.2.1
def auG:AX gJ 189 (nC 0 (nu (nh Syntax.lU) lX)) lh lh lX (ny (oI n)):=(p9 n).2.2.2.2.2.1
def aud:AX gJ 233 (nC 0 (nu (nh Syntax.lU) lX)) lh lh lX (ny (pN n)):=(p9 n).2.2.2.2.2.2.1
def acN:AX gJ 132 qz lh lh lX (lW (ng n)):=(p9 n).2.2.2.2.2.2.2.1
def asw:AX gJ 269 (nC 0 (nu (nA Syntax.row) lX)) lh lh lX (Av (sU n)):=(p9 n).2.2.2.2.2.2.2.2.1
def arA:AX gJ 299 (nC 0 (nu (nh Syntax.lU) lX)) lh lh lX (ny (nN n)):=(p9 n).2.2.2.2.2.2.2.2.2.1
def abb:AX gJ 132 pe lh lh lX (lW (mL n)):=(p9 n).2.2.2.2.2.2.2.2.2.2
open Go.Proofs
@[go_sem]abbrev mD(F:kZ->Option Td)(b:T6)(a:Unit):=F b.1.1
@[go_sem]def pP(F:kZ->Option Td):=A7 true [.arg 0 []] kY (nC 0 lX) kY (nu (nh Syntax.lU) lX) kY lr (mD F)
@[go_sem]abbrev sJ(F:Int->kZ->Option Td)(b:T6)(a:(Int×Unit)):=F a.1 b.1.1
@[go_sem]def Gx(F:Int->kZ->Option Td):=A7 true [.arg 0 []] kY (nC 0 (nu (oe .i64) lX)) kY (nu (nh Syntax.lU) lX) kY lr (sJ F)
@[go_sem]abbrev xk(F:lH->lH->kZ->Option Tx)(b:T6)(a:(lH×(lH×Unit))):=F a.1 a.2.1 b.1.1
@[go_sem]def QG(F:lH->lH->kZ->Option Tx):=A7 true [.arg 0 []] kY (nC 0 (nu oa (nu oa lX))) kY (nu (nA lD.row) lX) kY lr (xk F)
@[go_sem]abbrev Ay(F:Syntax->kZ->Option Td)(b:T6)(a:(Syntax×Unit)):=F a.1 b.1.1
@[go_sem]def QH(F:Syntax->kZ->Option Td):=A7 true [.arg 0 []] kY (nC 0 (nu (nh Syntax.lU) lX)) kY (nu (nh Syntax.lU) lX) kY lr (Ay F)
@[go_sem]def me:=(vV (EB (V1 kZ.lU 6 lX)) (vV (EB (V1 Syntax.lU 8 lX)) Ex))
@[go_sem]abbrev rO(F:kZ->Syntax->Option Th)(b:(Te×((Syntax×Unit)×Unit)))(a:Unit):=F b.1.1 b.2.1.1
@[go_sem]def B8(F:kZ->Syntax->Option Th):=A7 true [.arg 0 [],.arg 1 []] me (nC 0 (nC 1 lX)) me lX me lr (rO F)
@[go_sem]abbrev zh(F:kZ->Option TQ)(b:T6)(a:Unit):=F b.1.1
@[go_sem]def HC(F:kZ->Option TQ):=A7 true [.arg 0 []] kY (nC 0 lX) kY (nu (nA Syntax.row) lX) kY lr (zh F)
@[go_sem]def vH:=(nC 0 (nu (nh Syntax.lU) (nu (nA lD.row) (nu oa lX))))
@[go_sem]abbrev wB(F:Syntax->TF->lH->kZ->Option Td)(b:T6)(a:(Syntax×(TF×(lH×Unit)))):=F a.1 a.2.1 a.2.2.1 b.1.1
@[go_sem]def acO(F:Syntax->TF->lH->kZ->Option Td):=A7 true [.arg 0 []] kY vH kY (nu (nh Syntax.lU) lX) kY lr (wB F)
structure lm where
 mz:kZ->Option Td
 wi:Int->kZ->Option Td
 sW:lH->lH->kZ->Option Tx
 wj:Int->kZ->Option Td
 ut:Int->kZ->Option Td
 uB:kZ->Option Td
 s6:kZ->Option Td
 uF:kZ->Option Td
 s7:kZ->Option Td
 tD:kZ->Option Td
 tZ:Syntax->kZ->Option Td
 vb:kZ->Syntax->Option Th
 sr:kZ->Option TQ
 qU:kZ->Option Td
 nF:kZ->Option Td
 tE:kZ->Syntax->Option Th
 uu:kZ->Syntax->Option Th
 th:Syntax->TF->lH->kZ->Option Td
open Go.Proofs
@[reducible] def nr(X:lm)(n:Nat):mg Td:=qj gJ f44 n (apY (Xm [(83,Q7 [.arg 0 [],.yj 0 0 []] mY (nC 0 lX) mY lX (fun(b:(Unit×T6))(a:Unit)=>(ux n) b.2.1.1))]) (tO gJ [.cell 2 37] [] [0] 1 kY (nu (nh Syntax.lU) lX)) (tP [] [0] 1 kY lr)) (cl:=oN [(84,HJ (tV (rB (xM kZ.lU) (oe .i64) (uc n)))),(85,HJ (tV (aio (xM kZ.lU) (oe .i64) oa p8 (xd n)))),(88,DP [0] (xo (CK kZ.lU) vI) (WK 0 MJ) (xo (CK kZ.lU) vI) (V0 oa KQ) (fun(b:Te) a=>(nV n) b.1)),(91,HJ (tV (q6 (xM kZ.lU) oa p8 (qZ n))))]) (ua:=apZ (Xm [(83,Q7 [.arg 0 [],.yj 0 0 []] mY (nC 0 lX) mY lX (fun(b:(Unit×T6))(a:Unit)=>(ux n) b.2.1.1))]) (tO gJ [.cell 2 37] [] [0] 1 kY (nu (nh Syntax.lU) lX)) (tP [] [0] 1 kY lr)) (co:=Vc [(82,K3 [.arg 0 []] kY (nC 0 (nu (oe .i64) lX)) kY lX kY lr (sM (pO n))),(89,K3 [.arg 0 []] kY vH kY (nu (nh Syntax.lU) lX) kY lr (wB X.th)),(90,K3 [.arg 0 []] kY (nC 0 (nu oa (nu oa lX))) kY (nu (nA lD.row) lX) kY lr (xk X.sW))]) (cp:=DR [(86,Gx X.wi),(87,Gx X.wj),(92,Gx X.ut)]) (zV:=oR [86,87,92]) (AI:=oR [82,89,90]) (AK:=oR [])
def ahx(X:lm)(n:Nat):aEx (nr X n) [0,0,1,1,1,1,1,1,1,0,0,1,1,1,1,1] [0,0,1,1,1,1,1,1,1,1,1,0,0,1,1,1,1,1] [0,1] [0,1,0,1,1,1,1,1,0,0,1,1,1,1,1]:=⟨kX,kX,kX,kX⟩
def ahy(X:lm)(n:Nat):DE (nr X n) [0,0,1,1,1,1,1,1,1,0,0,1,1,1,1,1] 3 4 0 5 3 5 4 5/\DE (nr X n) [0,0,1,1,1,1,1,1,1,0,0,1,1,1,1,1] 0 6 3 6 4 6 5 6/\DE (nr X n) [0,0,1,1,1,1,1,1,1,1,1,0,0,1,1,1,1,1] 3 4 0 5 3 5 4 5/\DE (nr X n) [0,0,1,1,1,1,1,1,1,1,1,0,0,1,1,1,1,1] 0 6 3 6 4 6 5 6/\aB1 (nr X n) [0,1] 0 7 3 7 6 7/\DE (nr X n) [0,1,0,1,1,1,1,1,0,0,1,1,1,1,1] 3 4 0 5 3 5 4 5/\DE (nr X n) [0,1,0,1,1,1,1,1,0,0,1,1,1,1,1] 0 6 3 6 4 6 5 6:=⟨⟨kX,kX,kX,kX⟩,⟨kX,kX,kX,kX⟩,⟨kX,kX,kX,kX⟩,⟨kX,kX,kX,kX⟩,⟨kX,kX,kX⟩,⟨kX,kX,kX,kX⟩,kX,kX,kX,kX⟩
def ahz(X:lm)(n:Nat):QU (nr X n) [0,0,1,1,1,1,1,1,1,0,0,1,1,1,1,1] 4 5=true/\QU (nr X n) [0,0,1,1,1,1,1,1,1,0,0,1,1,1,1,1] 4 6=true/\QU (nr X n) [0,0,1,1,1,1,1,1,1,1,1,0,0,1,1,1,1,1] 4 5=true/\QU (nr X n) [0,0,1,1,1,1,1,1,1,1,1,0,0,1,1,1,1,1] 4 6=true/\QU (nr X n) [0,1,0,1,1,1,1,1,0,0,1,1,1,1,1] 4 5=true/\QU (nr X n) [0,1,0,1,1,1,1,1,0,0,1,1,1,1,1] 4 6=true/\aaa (nr X n) [0,0,1,1,1,1,1,1,1,0,0,1,1,1,1,1] 4=false/\aaa (nr X n) [0,0,1,1,1,1,1,1,1,0,0,1,1,1,1,1] 5=true/\aaa (nr X n) [0,0,1,1,1,1,1,1,1,1,1,0,0,1,1,1,1,1] 4=false/\aaa (nr X n) [0,0,1,1,1,1,1,1,1,1,1,0,0,1,1,1,1,1] 5=true/\aaa (nr X n) [0,1] 7=true/\aaa (nr X n) [0,1,0,1,1,1,1,1,0,0,1,1,1,1,1] 4=false/\aaa (nr X n) [0,1,0,1,1,1,1,1,0,0,1,1,1,1,1] 5=true:=⟨kX,kX,kX,kX,kX,kX,kX,kX,kX,kX,kX,kX,kX⟩
attribute [go_sem] ahx ahy ahz
def B9(X:lm)(n:Nat):SX (nr X n) (nC 0 lX) kY 80 mD:=Ea
open Go.Proofs
@[go_sem]def US:Ce:=⟨[(5,9,true)],[],(zK::zK::zA::zA::zK::zK::zK::oZ (oZ (oZ (zA::zA::[])))),[oT kZ.lU,oK,oA lD.row],none,none⟩
@[reducible] def WB(X:lm)(n:Nat):mg Td:=qj gJ f86 n (tO gJ [.cell 4 37] [] [0] 1 kY (nu (nh Syntax.lU) lX)) (cl:=oN [(88,DP [0] (xo (CK kZ.lU) vI) (WK 0 MJ) (xo (CK kZ.lU) vI) (V0 oa KQ) (fun(b:Te) a=>(nV n) b.1)),(91,HJ (tV (q6 (xM kZ.lU) oa p8 (qZ n)))),(150,DP [0] (xo (CK kZ.lU) vI) (WK 0 MJ) (xo (CK kZ.lU) vI) (V0 (nh Syntax.lU) KQ) (fun(b:Te) a=>(DW n) b.1)),(152,aio (nh Syntax.lU) (nA lD.row) (nh Syntax.lU) (nh Syntax.lU) (Ot n))]) (vc:=tK [([0,1,0,1,1,1],US)]) (ua:=tP [] [0] 1 kY lr) (cp:=DR [(44,pP X.mz),(82,nP (pO n)),(90,QG X.sW),(149,qM (tY n)),(151,rM (qn n))]) (zV:=oR [44,82,90,149,151])
@[go_sem]abbrev UT(v0 v1:Int)(o0:kZ)(r2:List lD)(c2:Nat):k9:=⟨(.ptr 0 0::.int .i64 v0::qA::qA::.ptr 1 0::.nW 2 c2::.int .i64 v1::pg (pg (pg (qA::qA::[])))),[.cells (kZ.cells o0),.cells [.int .i64 0,.str (sb []),.int .i64 0,.mj true 0 [],.mj true 0 [],.mj true 0 [],.int .i64 0,.int .i64 0],.nW true 9 (mp lD.cells r2)],1,[]⟩
abbrev UU:=Int->Int->kZ->TF->Option Td
abbrev ahA(X:lm)(n:Nat)(K:List Kt)(Z:UU):Prop:=∀v0 v1 o0 r2 c2,c2=r2.length->run (WB X n) K (UT v0 v1 o0 r2 c2)=Z v0 v1 o0 r2
def Ft(X:lm)(n:Nat):LB (ahA X n) [0,1,0,1,1,1] [.wF 0,.cut [1,1,1,1],.at [1,1,1,1]]:=JT
def Ca(X:lm)(n:Nat):Nat->UU:=C4 ((Ft X n).1)
def aev(X:lm){n:Nat}:Ca X n (m+1)=(Ft X n).1 (Ca X n m):=rfl
@[go_sem]def acP(X:lm)(n:Nat)(m:Nat):=EV (Ft X n) (Ca X n) m
def Gy(X:lm)(n:Nat):SX (WB X n) (nC 0 (nu (oe .i64) lX)) kY 57 sJ:=Ea
open Go.Proofs
@[go_sem]def OS:Ce:=⟨[],[],(zK::zK::zK::py (zK::oZ (oZ (py (py (py (zA::zA::[]))))))),[oT kZ.lU,oA mJ],none,none⟩
@[go_sem]def No:Ce:=⟨[],[],(zK::zK::zK::py (zL mJ::oZ (oZ (py (py (py (zA::zA::[]))))))),[oT kZ.lU],(some 7),none⟩
@[reducible] def Du(X:lm)(n:Nat):mg Tx:=qj gJ f90 n (tO gJ [.tmp 6] [] [0] 1 kY (nu (nA lD.row) lX)) (cl:=oN [(88,DP [0] (xo (CK kZ.lU) vI) (WK 0 MJ) (xo (CK kZ.lU) vI) (V0 oa KQ) (fun(b:Te) a=>(nV n) b.1)),(154,HJ (tV (rB (xM kZ.lU) p8 (vF n)))),(155,q6 (nA mJ) (nh Syntax.lU) (nA lD.row) (L6 n))]) (vc:=tK [([0,0,1,1,1],No),([0,0,1,1,1],OS)]) (ua:=tP [] [0] 1 kY lr) (cp:=DR [(44,pP X.mz),(82,nP (pO n)),(149,qM (tY n)),(151,rM (qn n))]) (zV:=oR [44,82,149,151])
@[go_sem]abbrev OT(v0 v1:lH)(o0:kZ)(r1:List lH)(c1:Nat):k9:=⟨(.ptr 0 0::.str (sb v0)::.str (sb v1)::pM (.nW 1 c1::pg (pg (pM (pM (pM (qA::qA::[]))))))),[.cells (kZ.cells o0),.nW true 1 (mp mS r1)],1,[]⟩
abbrev OU:=lH->lH->kZ->(List lH)->Option Tx
abbrev acQ(X:lm)(n:Nat)(K:List Kt)(Z:OU):Prop:=∀v0 v1 o0 r1 c1,c1=r1.length->run (Du X n) K (OT v0 v1 o0 r1 c1)=Z v0 v1 o0 r1
def CA(X:lm)(n:Nat):LB (acQ X n) [0,0,1,1,1] [.wF 0,.cut [1,1,1,1],.at [1,1,1,1]]:=by
 apply gX;intro m X0 ih v0 v1 o0 r1 c1 ec1;subst ec1;simp (config:={maxSteps:=100000000}) only[go_sem,gO,gP,gK,gL,gQ,gR,gT,gU,gV,gM,gS,gW,f90,gN,mixed,ih];exact rfl
def CB(X:lm)(n:Nat):Nat->OU:=C4 ((CA X n).1)
def aOU(X:lm){n:Nat}:CB X n (m+1)=(CA X n).1 (CB X n m):=rfl
def LU(X:lm)(n:Nat)(m:Nat):=EV (CA X n) (CB X n) m
def FZ(X:lm)(n:Nat):{B:Nat->lH->lH->(List lH)->kZ->Option Tx //∀(m:Nat)(v0 v1:lH)(v2:List lH)(o0:kZ),run (Du X n) [.at [0,0,0,1,1,1],.lp m [0,0,1,1,1],.wF 0,.cut [1,1,1,1],.at [1,1,1,1]] ⟨[.ptr 0 0,.str (sb v0),.str (sb v1),qA,qA,qA,qA,.mj true 1 (mp mS v2),qA,qA,qA,qA,qA,qA,qA,qA,qA,qA,qA,qA,qA,qA,qA,qA,qA,qA,qA,qA,qA,qA,qA,qA,qA,qA,qA,qA,qA,qA,qA,qA,qA,qA,qA,qA,qA,qA,qA,qA,qA,qA,qA,qA,qA,qA],[.cells (kZ.cells o0)],1,[]⟩=B m v0 v1 v2 o0}:=by
 apply gX;intro m v0 v1 v2 o0;simp (config:={maxSteps:=100000000}) only[go_sem,gO,gP,gK,gL,gQ,gR,gT,gU,gV,gM,gS,gW,f90,gN,mixed,LU X n];exact rfl
def HE(X:lm)(n:Nat):Nat->lH->lH->(List lH)->kZ->Option Tx
 |0,_,_,_,_=>none
 |m+1,v0,v1,v2,o0=>(FZ X n).1 m v0 v1 v2 o0
def Yn(X:lm)(n:Nat):∀(m:Nat),(∀(v0 v1:lH)(v2:List lH)(o0:kZ),run (Du X n) [.lq m [0,0,1,1,1],.wF 0,.cut [1,1,1,1],.at [1,1,1,1]] ⟨[.ptr 0 0,.str (sb v0),.str (sb v1),qA,qA,qA,qA,.mj true 1 (mp mS v2),qA,qA,qA,qA,qA,qA,qA,qA,qA,qA,qA,qA,qA,qA,qA,qA,qA,qA,qA,qA,qA,qA,qA,qA,qA,qA,qA,qA,qA,qA,qA,qA,qA,qA,qA,qA,qA,qA,qA,qA,qA,qA,qA,qA,qA,qA],[.cells (kZ.cells o0)],1,[]⟩=HE X n m v0 v1 v2 o0)
 |0=>by intros;exact SZ
 |m+1=>by
  intro v0 v1 v2 o0;rw[KZ];exact(FZ X n).2 m v0 v1 v2 o0
def Dv(X:lm)(n:Nat):SX (Du X n) (nC 0 (nu oa (nu oa lX))) kY 54 xk:=by
 apply gX
 repeat (first|refine Prod.forall.2 ?_|intro)
 simp (config:={maxSteps:=100000000}) only[go_sem,gO,gP,gK,gL,gQ,gR,gT,gU,gV,gM,gS,gW,f90,gN,mixed,LU X n,Yn X n];exact rfl
end Go.Abs
end
