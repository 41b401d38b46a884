/- A part of the proof: what the functions compute. -/
import Derived.Test.YtpdbjkgnmjnebaaGreatDoorDataA
import Derived.Test.YtpdbjkgnmjnebaaGreatDoorWalkA
import Derived.Test.YtpdbjkgnmjnebaaGreatDoorWalkB
import Derived.Test.YtpdbjkgnmjnebaaGreatDoorExtA
set_option linter.all false
open Go.Proofs.Tryz renaming prog→gB
open Nat renaming reduceLeDiff→gC,reduceEqDiff→gD,reduceAdd→gG,reduceSub→gH,reduceBEq→gI,reduceMul→gJ,reduceLT→gL
open Int renaming reduceToNat→gE,reduceBEq→gK,reduceLE→gM,reduceLT→gN,reduceEq→gO
open Option renaming getD_some→gF
open Go.Abs.AV renaming any→qA
noncomputable section
open Go.Proofs.Tryz
namespace Go.Abs
variable {m:Nat}
variable (n:Nat)
open Go.Proofs
attribute [go_sem] f148 f91 f155 f152 f209 f23 f48 f214 f287 f50 f307 f49 f182 f109 f292 f56 f268 f235 f204 f203 f82 f93 f154 f153 f67 f158 f255 f289 f126 f262 f139 f151 f149 f327 f340 f326 f45 f74 f290 f168 f221 f76 f147 f335 f330 f339 f30 f258 f106 f110 f169 f222 f36 f81 f332 f125 f128 f25 f215 f259 f35 f43 f331 f70 f129 f328
set_option maxRecDepth 100000
set_option maxHeartbeats 4000000
@[go_sem]abbrev p5(F:Int->jP->Option Tz)(b:T6)(a:(Int×Unit)):=F a.1 b.1.1
@[go_sem]def mb(F:Int->jP->Option Tz):=xu true [.arg 0 []] jO (lX 0 (lW (lr .i64) kJ)) jO kJ jO j1 (p5 F)
@[reducible] def ad7:kK Tz:=nh gB f148 n (qL gB [] [] [0] 1 jO kJ) (cl:=l6 [(84,DX (pR (nq (uL jP.kv) (lr .i64) (vD n))))]) (rk:=qM [] [0] 1 jO j1)
def NB:SX (ad7 n) (lX 0 (lW (lr .i64) kJ)) jO 9 p5:=mC2
def vJ:=fu fun n=>(NB n).1
def vK:∀n:Nat,tN gB 148 (lX 0 (lW (lr .i64) kJ)) jO true jO kJ jO j1 (p5 (vJ n)):=adx fun n=>Ei (NB n) (gd (jQ (qp (nu (uM n))) jT) jU) func148 ntmps148 results148
@[reducible] def ad8:kK Bool:=nh gB f91 n (l1 gB [.tmp 4] mw) (cl:=l6 [(85,Zv (uL jP.kv) (lr .i64) mo mw (Al n))])
def NC:Ll (ad8 n) (uL jP.kv) mo 8:=mB
def qc:=fu fun n=>(NC n).1
def pM:∀n:Nat,uu gB 91 (uL jP.kv) mo mw (qc n):=yu fun n=>we (NC n) (gd (jQ (Qs (zj n)) jT) jU) func91 ntmps91 results91
@[go_sem]def afs:ua:=⟨[(5,9,true)],[],(zA::zA::zA::zK::zA::zK::zA::zA::zT (lA kW)::zK::zK::l7 (l7 (l7 []))),[oT Syntax.kv,oA j8.row],none,none⟩
@[reducible] def aiq:kK TF:=nh gB f155 n (l1 gB [.tmp 4] (lA j8.row)) (cl:=l6 [(208,nq (kZ Syntax.kv) (kZ Syntax.kv) (QB n))]) (qj:=oz [([0,1,0,1,1],afs)])
@[go_sem]abbrev aft(v0:List kj)(v1 v2:Int)(o0:Syntax)(r1:List j8)(c1:Nat):jS:=⟨(qA::qA::qA::.ptr 0 0::qA::.lR 1 c1::qA::qA::.kF false 1 (mp kX v0)::.int .i64 v1::.int .i64 v2::mm (mm (mm []))),[.cells (Syntax.cells o0),.lR true 9 (mp j8.cells r1)],0,[]⟩
abbrev afu:=(List kj)->Int->Int->Syntax->TF->Option TF
abbrev ari(K:List Kt)(Z:afu):Prop:=∀v0 v1 v2 o0 r1 c1,c1=r1.length->run (aiq n) K (aft v0 v1 v2 o0 r1 c1)=Z v0 v1 v2 o0 r1
def SI:LB (ari n) [0,1,0,1,1] [.qg 0,.cut [1,1,1],.at [1,1,1]]:=mB
def SJ:Nat->afu:=ui ((SI n).1)
def aEZ{n:Nat}:SJ n (m+1)=(SI n).1 (SJ n m):=rfl
@[go_sem]def amh(m:Nat):=vi (SI n) (SJ n) m
def air:Ll (aiq n) (lA kW) (kZ Syntax.kv) 23:=mB
def ad9:=fu fun n=>(air n).1
def afv:∀n:Nat,uu gB 155 (lA kW) (kZ Syntax.kv) (lA j8.row) (ad9 n):=yu fun n=>we (air n) (gd (jQ (lB (abX n)) jT) jU) func155 ntmps155 results155
@[reducible] def ak5:kK Syntax:=nh gB f152 n (l1 gB [.cell 6 37] (kZ Syntax.kv)) (cl:=l6 [(206,nq (lA j8.row) (alE 246 (uL (cL j8.row))) (OZ n)),(246,IS (LC n))]) (js:=aFV [([0,1,0,1],[])])
@[go_sem]def arj:lkM (ak5 n) [0,1,0,1]=qa:=rfl
attribute [go_sem] Eo
def ak6:SC3 (ak5 n) (kZ Syntax.kv) (lA j8.row) (kZ Syntax.kv) 29:=mB
def YV:=fu fun n=>(ak6 n).1
def WZ:∀n:Nat,auZ gB 152 (kZ Syntax.kv) (lA j8.row) (kZ Syntax.kv) (kZ Syntax.kv) (YV n):=aIv fun n=>aDK (ak6 n) (gd (jQ (lB (Z0 n)) (jQ (mV (WA n)) jT)) jU) func152 ntmps152 results152
@[reducible] def Kc:kK Bool:=nh gB f209 n (l1 gB [.tmp 2] mw) (cl:=l6 [(94,nq (uL jP.kv) (kZ lz.kv) (nr n))]) (cd:=Bp [(79,pR (nP (lA kW) mo mw (oG n)))]) (uz:=l2 []) (uC:=l2 [])
@[go_sem]def aal:so (Kc n) [0,1,1]=true:=jN
def Kd:Jx (Kc n) (uL jP.kv) 25:=mB
def EC:=fu fun n=>(Kd n).1
def IV:∀n:Nat,uj gB 209 (uL jP.kv) mw (EC n):=ww fun n=>uU (Kd n) (gd (jQ (lB (mO n)) jT) (lC (qk (pS n)) jU)) func209 ntmps209 results209
@[reducible] def atP:kK (List kj):=nh gB f23 n (l1 gB [.tmp 2] (lA kW)) (cl:=l6 [(63,am9 0 true 1 (Ah [0] (uf (aQL true kW) sM) (asA 0 (fun(b:Tf)=>b.1.length) (asT (kZ jW.kv) IJ)) (uf (aQL true kW) sM) (rsA 0 (fun(b:Tf)=>b.1.length) F8) (fun(b:Tf) a=>(xY n) b.1 a.1)))])
def aQ7:Jx (atP n) (kZ jW.kv) 5:=mB
def Vp:=fu fun n=>(aQ7 n).1
def ark:∀n:Nat,uj gB 23 (kZ jW.kv) (lA kW) (Vp n):=ww fun n=>uU (aQ7 n) (gd (jQ (abg (pq (fun b a r h=>(afn n) b.1 a.1 r h))) jT) jU) func23 ntmps23 results23
open Go.Proofs
@[reducible] def arl:kK Bool:=nh gB f48 n (l1 gB [.tmp 4] mw) (cl:=l6 [(10,nP (lA kW) (tyF 96) mw (sC n))])
def SK:Ll (arl n) (lA kW) (lr .i64) 14:=mB
def Fq:=fu fun n=>(SK n).1
def Qg:∀n:Nat,uu gB 48 (lA kW) (lr .i64) mw (Fq n):=yu fun n=>we (SK n) (gd (jQ (lw (Cs n)) jT) jU) func48 ntmps48 results48
def acf:ua:=⟨[],[],(zA::zK::zA::zA::zA::zK::wv (lH (lH (lH (l7 (zA::zA::[])))))),[oT kz.kv],none,none⟩
def acg:ua:=⟨[],[],(zA::zK::zA::zA::zK::wv (lH (lH (lH (l7 (zA::zA::zA::[])))))),[oT kz.kv],none,none⟩
def ach:ua:=⟨[],[],(zA::zK::zA::zK::wv (lH (lH (lH (l7 (l7 [])))))),[oT kz.kv],none,none⟩
@[reducible] def KI:kK Bool:=nh gB f214 n (l1 gB [.tmp 2] mw) (cl:=l6 [(253,nq (kZ jW.kv) mw (Rg n)),(254,nP (kZ ld.kv) (lr .i64) mw (xe n))]) (qj:=oz [([0,1,0,1,1,1,1],acf),([0,1,0,1,1,1],acg),([0,1,0,1,1],ach)])
attribute [go_sem] acf acg ach
abbrev aci(v0:Int)(o0:kz):jS:=⟨(qA::.ptr 0 0::qA::qA::qA::.int .i64 v0::wu (lK (lK (lK (mm (qA::qA::[])))))),[.cells (kz.cells o0)],0,[]⟩
abbrev Am:=Int->kz->Option Bool
abbrev apv(K:List Kt)(Z:Am):Prop:=∀v0 o0,run (KI n) K (aci v0 o0)=Z v0 o0
abbrev acj(v0:Int)(o0:kz):jS:=⟨(qA::.ptr 0 0::qA::qA::.int .i64 v0::wu (lK (lK (lK (mm (qA::qA::qA::[])))))),[.cells (kz.cells o0)],0,[]⟩
abbrev apw(K:List Kt)(Z:Am):Prop:=∀v0 o0,run (KI n) K (acj v0 o0)=Z v0 o0
abbrev ack(v0:Int)(o0:kz):jS:=⟨(qA::.ptr 0 0::qA::.int .i64 v0::wu (lK (lK (lK (mm (mm [])))))),[.cells (kz.cells o0)],0,[]⟩
abbrev apx(K:List Kt)(Z:Am):Prop:=∀v0 o0,run (KI n) K (ack v0 o0)=Z v0 o0
attribute [go_sem] aci acj ack
def Dv:LB (apv n) [0,1,0,1,1,1,1] [.qg 4,.cut [1,1,1,1,1],.at [1,1,1,1,1]]:=mB
def An:Nat->Am:=ui ((Dv n).1)
def aQ8{n:Nat}:An n (m+1)=(Dv n).1 (An n m):=rfl
@[go_sem]def aj9(m:Nat):=vi (Dv n) (An n) m
def Dw:LB (apw n) [0,1,0,1,1,1] [.qg 2,.cut [1,1,1,1],.at [1,1,1,1]]:=mB
def Ao:Nat->Am:=ui ((Dw n).1)
def aQ9{n:Nat}:Ao n (m+1)=(Dw n).1 (Ao n m):=rfl
@[go_sem]def aka(m:Nat):=vi (Dw n) (Ao n) m
def Dx:LB (apx n) [0,1,0,1,1] [.qg 0,.cut [1,1,1],.at [1,1,1]]:=mB
def Ap:Nat->Am:=ui ((Dx n).1)
def aRa{n:Nat}:Ap n (m+1)=(Dx n).1 (Ap n m):=rfl
@[go_sem]def akb(m:Nat):=vi (Dx n) (Ap n) m
def SL:Jx (KI n) (kZ kz.kv) 124:=mB
def QH:=fu fun n=>(SL n).1
def apy:∀n:Nat,uj gB 214 (kZ kz.kv) mw (QH n):=ww fun n=>uU (SL n) (gd (jQ (lB (ahR n)) (jQ (lw (WG n)) jT)) jU) func214 ntmps214 results214
@[reducible] def aye:kK Bool:=nh gB f287 n (l1 gB [.tmp 2] mw) (cl:=l6 [(22,nP (kZ jW.kv) (kZ jW.kv) mw (Ca n))])
def aea:Jx (aye n) (kZ jW.kv) 6:=mB
def aRb:=fu fun n=>(aea n).1
def ak7:∀n:Nat,uj gB 287 (kZ jW.kv) mw (aRb n):=ww fun n=>uU (aea n) (gd (jQ (lw (QE n)) jT) jU) func287 ntmps287 results287
@[reducible] def avw:kK Int:=nh gB f50 n (l1 gB [.tmp 10] (lr .i64)) (cl:=l6 [(100,aC1 (kZ jW.kv) (lr .i64) (lr .i64) (lr .i64) (lr .i64) (lr .i64) (lr .i64) (qw n)),(101,nq (kZ jW.kv) (lr .i64) (Ej n)),(102,nq (kZ jW.kv) (lr .i64) (BF n))])
def QI:SC5 (avw n) (kZ jW.kv) (lr .i64) (lr .i64) (lr .i64) (lr .i64) 28:=mB
def HG:=fu fun n=>(QI n).1
def ais:∀n:Nat,aKP gB 50 (kZ jW.kv) (lr .i64) (lr .i64) (lr .i64) (lr .i64) (lr .i64) (HG n):=aP7 fun n=>aP6 (QI n) (gd (jQ (aJV (ain n)) (jQ (lB (ZC n)) (jQ (lB (VZ n)) jT))) jU) func50 ntmps50 results50
def YW:ua:=⟨[],[],(zA::zA::zK::zK::zA::zK::wv (l7 [])),[oT ld.kv,oT ld.kv],none,none⟩
@[reducible] def xG(X:ld->ld->Option Bool)(n:Nat):kK Bool:=nh gB f307 n (l1 gB [.tmp 4] mw) (cl:=l6 [(22,nP (kZ jW.kv) (kZ jW.kv) mw (Ca n)),(307,nP (kZ ld.kv) (kZ ld.kv) mw X)]) (qj:=oz [([0,1,0,1,1],YW)]) (uz:=l2 []) (uC:=l2 [])
def apz(X:ld->ld->Option Bool)(n:Nat):so (xG X n) [0,0,0,1,0,0,1,0,1,1]=true:=jN
def apA(X:ld->ld->Option Bool)(n:Nat):xR (xG X n) [0,0,0,1,0,0,1,0,1,1] 1 12 3 12 4 12 10 12/\xR (xG X n) [0,0,0,1,0,0,1,0,1,1] 11 12 1 13 3 13 4 13/\xR (xG X n) [0,0,0,1,0,0,1,0,1,1] 6 13 8 13 9 13 10 13/\aDH (xG X n) [0,0,0,1,0,0,1,0,1,1] 11 13 12 13 10 11:=⟨⟨jN,jN,jN,jN⟩,⟨jN,jN,jN,jN⟩,⟨jN,jN,jN,jN⟩,jN,jN,jN⟩
attribute [go_sem] apz apA YW
@[go_sem]abbrev YX(v0:Int)(o0 o1:ld):jS:=⟨(qA::qA::.ptr 0 0::.ptr 1 0::qA::.int .i64 v0::wu (mm [])),[.cells (ld.cells o0),.cells (ld.cells o1)],0,[]⟩
abbrev YY:=Int->ld->ld->Option Bool
abbrev an0(X:ld->ld->Option Bool)(n:Nat)(K:List Kt)(Z:YY):Prop:=∀v0 o0 o1,run (xG X n) K (YX v0 o0 o1)=Z v0 o0 o1
def BQ(X:ld->ld->Option Bool)(n:Nat):LB (an0 X n) [0,1,0,1,1] [.qg 0,.cut [1,1,1],.at [1,1,1]]:=mB
def BR(X:ld->ld->Option Bool)(n:Nat):Nat->YY:=ui ((BQ X n).1)
def UL(X:ld->ld->Option Bool){n:Nat}:BR X n (m+1)=(BQ X n).1 (BR X n m):=rfl
@[go_sem]def ait(X:ld->ld->Option Bool)(n:Nat)(m:Nat):=vi (BQ X n) (BR X n) m
def Qh(X:ld->ld->Option Bool)(n:Nat):Ll (xG X n) (kZ ld.kv) (kZ ld.kv) 74:=mB
def yn:Nat->ld->ld->Option Bool
 |0,_,_=>none
 |n+1,a0,a1=>(Qh (yn n) n).1 a0 a1
def YZ:∀n:Nat,uu gB 307 (kZ ld.kv) (kZ ld.kv) mw (yn n)
 |0=>fun _ _ _ h=>(by cases h)
 |n+1=>by
  have an1:=YZ n;exact we (Qh (yn n) n) (gd (jQ (lw (QE n)) (jQ (lw (an1)) jT)) jU) func307 ntmps307 results307
@[go_sem]def an2:ua:=⟨[],[],(l7 (l7 (zT (lA jW.row)::zK::zK::lH (l7 (l7 (zA::[])))))),[],none,none⟩
@[reducible] def aqn(X:(List jW)->Option Bool)(n:Nat):kK Bool:=nh gB f49 n (l1 gB [.tmp 2] mw) (cl:=l6 [(49,nq (lA jW.row) mw X),(97,nP (lr .i64) (lA jW.row) (lr .i64) (D4 n)),(98,nP (lA kA.row) (tyF 99) mw (rj n))]) (qj:=oz [([0,1,0,1,1],an2)])
@[go_sem]abbrev an3(v0:List jW)(v1 v2:Int):jS:=⟨(mm (mm (.kF false 5 (mp jW.cells v0)::.int .i64 v1::.int .i64 v2::lK (mm (mm (qA::[])))))),[],0,[]⟩
abbrev an4:=(List jW)->Int->Int->Option Bool
abbrev ayf(X:(List jW)->Option Bool)(n:Nat)(K:List Kt)(Z:an4):Prop:=∀v0 v1 v2,run (aqn X n) K (an3 v0 v1 v2)=Z v0 v1 v2
def ND(X:(List jW)->Option Bool)(n:Nat):LB (ayf X n) [0,1,0,1,1] [.qg 0,.cut [1,1,1],.at [1,1,1]]:=mB
def NE(X:(List jW)->Option Bool)(n:Nat):Nat->an4:=ui ((ND X n).1)
def aiu(X:(List jW)->Option Bool){n:Nat}:NE X n (m+1)=(ND X n).1 (NE X n m):=rfl
@[go_sem]def arm(X:(List jW)->Option Bool)(n:Nat)(m:Nat):=vi (ND X n) (NE X n) m
def aiv(X:(List jW)->Option Bool)(n:Nat):Jx (aqn X n) (lA jW.row) 36:=mB
def LZ:Nat->(List jW)->Option Bool
 |0,_=>none
 |n+1,a0=>(aiv (LZ n) n).1 a0
def an5:∀n:Nat,uj gB 49 (lA jW.row) mw (LZ n)
 |0=>fun _ _ h=>(by cases h)
 |n+1=>by
  have ayg:=an5 n;exact uU (aiv (LZ n) n) (gd (jQ (lB (ayg)) (jQ (lw (ahC n)) (jQ (lw (FG n)) jT))) jU) func49 ntmps49 results49
open Go.Proofs
@[reducible] def arn:kK Bool:=nh gB f182 n (l1 gB [.tmp 2] mw) (cl:=l6 [(199,Qf (HE n))])
def SM:Jx (arn n) mo 6:=mB
def Ke:=fu fun n=>(SM n).1
def acl:∀n:Nat,uj gB 182 mo mw (Ke n):=ww fun n=>uU (SM n) (gd (jQ (mV (YT n)) jT) jU) func182 ntmps182 results182
@[reducible] def ak8:kK Bool:=nh gB f109 n (l1 gB [.cell 4 4] mw) (cl:=l6 [(103,nq (kZ jW.kv) (alE 164 (uL jW.kv)) (KQ n)),(164,YU (KH n))]) (js:=aFV [([0,1,0,1,1],[(1,.ret)])])
@[go_sem]def aro:lkM (ak8 n) [0,1,0,1,1]=nS:=rfl
attribute [go_sem] xS
def aam:Ll (ak8 n) (kZ jW.kv) (lr .i64) 30:=mB
def aQV:=fu fun n=>(aam n).1
def atQ:∀n:Nat,uu gB 109 (kZ jW.kv) (lr .i64) mw (aQV n):=yu fun n=>we (aam n) (gd (jQ (lB (akB n)) (jQ (mV (amf n)) jT)) jU) func109 ntmps109 results109
@[go_sem]def xf:ua:=⟨[],[],(zT (lA kz.row)::zK::l7 (zA::zK::zK::l7 (l7 (zA::zA::[])))),[oC [zK]],none,none⟩
@[go_sem]def mT:=(lW (lA kz.row) (alF 263 (vlP 0 vlN) kJ))
@[go_sem]abbrev qt(F:(List kz)->kj->Option T1a)(b:TK)(a:((List kz)×(Unit×Unit))):=F a.1 b.1.1
@[go_sem]def xy(F:(List kz)->kj->Option T1a):=GR [.arg 1 [0]] (tz (Bq (aQO cS 1 kJ)) Bn) mT (tz (Bq (aQO cS 1 kJ)) Bn) (lW (lr .i64) kJ) (qt F)
@[reducible] def xz:kK T1a:=nh gB f292 n (w9 gB [.tmp 4] [] [0] 1 (tz (Bq (aQO cS 1 kJ)) Bn) (lW (lr .i64) kJ)) (cl:=l6 [(263,Ah [1] (uf (Ax cS) sM) (asT (kZ kz.kv) (XA 0 IJ)) (uf (Ax cS) sM) (VQ mw F8) (fun(b:(kj×Unit)) a=>(IA n) a.1 b.1))]) (qj:=oz [([0,1,0,1],xf)])
@[go_sem]abbrev xg(v0:List kz)(v1 v2:Int)(v3:kj):jS:=⟨(.kF false 23 (mp kz.cells v0)::.func (.func 263) [] [.ptr 0 0]::mm (qA::.int .i64 v1::.int .i64 v2::mm (mm (qA::qA::[])))),[.cells [.str (sb v3)]],1,[]⟩
abbrev xh:=(List kz)->Int->Int->kj->Option T1a
abbrev E5(K:List Kt)(Z:xh):Prop:=∀v0 v1 v2 v3,run (xz n) K (xg v0 v1 v2 v3)=Z v0 v1 v2 v3
def oR:LB (E5 n) [0,1,0,1] [.qg 0,.cut [1,1],.at [1,1]]:=mB
def oS:Nat->xh:=ui ((oR n).1)
def wi{n:Nat}:oS n (m+1)=(oR n).1 (oS n m):=rfl
@[go_sem]def Dy(m:Nat):=vi (oR n) (oS n) m
def tf:SX (xz n) mT (tz (Bq (aQO cS 1 kJ)) Bn) 19 qt:=mC
def qV:=fu fun n=>(tf n).1
def E6:∀n:Nat,zt gB 292 mT (tz (Bq (aQO cS 1 kJ)) Bn) (tz (Bq (aQO cS 1 kJ)) Bn) (lW (lr .i64) kJ) (qt (qV n)):=VX fun n=>GC (tf n) (gd (jQ (pq (fun b a r h=>(aj6 n) a.1 b.1 r h)) jT) jU) func292 ntmps292 results292
@[reducible] def aan:kK (List kj):=nh gB f56 n (l1 gB [.tmp 2] (lA kW)) (cl:=l6 [(103,nq (kZ jW.kv) (alE 164 (uL jW.kv)) (KQ n)),(164,aio (Vo n))]) (cut:=aKu [] [([1,1,1],[(3,0,1)])]) (js:=aFV [([0,1,0,1,1,1],[])])
@[go_sem]def arp:lkM (aan n) [0,1,0,1,1,1]=nB:=rfl
attribute [go_sem] wD
def aao:{B:jW->Option (List kj) //∀(a0:jW),run (aan n) [.at []] (ini [(kZ jW.kv).enc a0] 31)=B a0}:=mB
def aQW:=fu fun n=>(aao n).1
def atS:∀(n:Nat)(a0:jW)(r:(List kj)),aQW n a0=some r->I5 gB 56 [(kZ jW.kv).enc a0] (fun v=>v=(lA kW).enc r)
 |0,_,_,h=>by cases h
 |n+1,a0,r,h=>by
  exact am3 (M:=aan n) ⟨(jQ (lB (akB n)) (jQ (mV (arh n)) jT)),jU,pd _,aKv [] [([1,1,1],[(3,0,1)])],rK,rL,sA,rX⟩ func56 rfl rfl ⟨(kZ jW.kv).nb 0 _,trivial⟩ ntmps56 results56 (fun J hs=>ajE (P:=gB) (rs:=[.tmp 2]) (t:=(lA kW)) (J:=J) (r:=r) hs) (((aao n).2 a0).trans h)
@[go_sem]def IW:ua:=⟨[],[],(zK::zK::l7 (zA::zK::zT (lA Syntax.row)::lH (zA::zA::zT (lA kW)::zK::zK::lH (l7 (l7 (l7 (zA::zA::zA::[]))))))),[oC [zK],oA Syntax.row,oM (kZ jR.kv),oD,oT jR.kv],none,none⟩
@[go_sem]def xn:=(lX 0 (alA 1 (lW (kZ Syntax.kv) kJ)))
@[go_sem]def qJ:=(tz (Bq (aQP 2 kJ)) (tz (ogA true Syntax.row) (tz (aqO (kZ jR.kv)) Bn)))
@[go_sem]abbrev x9(F:Syntax->(List Syntax)->Tb->Option Tp)(b:(Unit×((List Syntax)×(Tb×Unit))))(a:(Syntax×Unit)):=F a.1 b.2.1 b.2.2.1
@[go_sem]def Ce(F:Syntax->(List Syntax)->Tb->Option Tp):=GR [.arg 0 [],.arg 1 [],.vA 0 0 []] qJ xn qJ (alA 1 kJ) (x9 F)
@[reducible] def Kf(X:Syntax->(List Syntax)->Tb->Option Tp)(n:Nat):kK Tp:=nh gB f268 n (w9 gB [.tmp 6] [] [0,1,2] 3 qJ (alA 1 kJ)) (cl:=l6 [(268,am9 1 true 8 (Ce X)),(297,wL (xV n)),(298,Cb (p4 n))]) (qj:=oz [([0,1,0,1,1,1],IW)])
@[go_sem]abbrev IX(v0:List Syntax)(v1:List kj)(v2 v3:Int)(r1:List Syntax)(r2:List (kj×jR))(o4:jR)(c1:Nat):jS:=⟨(.ptr 0 0::.lR 1 c1::mm (qA::.ptr 4 0::.kF false 8 (mp Syntax.cells v0)::lK (qA::qA::.kF false 1 (mp kX v1)::.int .i64 v2::.int .i64 v3::lK (mm (mm (mm (qA::qA::qA::[]))))))),[.cells [.map 2],.lR true 8 (mp Syntax.cells r1),.map (mp (PX (kZ jR.kv)) r2),.vZ,.cells (jR.cells o4)],3,[]⟩
abbrev IY:=(List Syntax)->(List kj)->Int->Int->(List Syntax)->Tb->jR->Option Tp
abbrev XW(X:Syntax->(List Syntax)->Tb->Option Tp)(n:Nat)(K:List Kt)(Z:IY):Prop:=∀v0 v1 v2 v3 r1 r2 o4 c1,c1=r1.length->run (Kf X n) K (IX v0 v1 v2 v3 r1 r2 o4 c1)=Z v0 v1 v2 v3 r1 r2 o4
def Bt(X:Syntax->(List Syntax)->Tb->Option Tp)(n:Nat):LB (XW X n) [0,1,0,1,1,1] [.qg 0,.cut [1,1,1,1],.at [1,1,1,1]]:=mB
def Bu(X:Syntax->(List Syntax)->Tb->Option Tp)(n:Nat):Nat->IY:=ui ((Bt X n).1)
def arT(X:Syntax->(List Syntax)->Tb->Option Tp){n:Nat}:Bu X n (m+1)=(Bt X n).1 (Bu X n m):=rfl
@[go_sem]def SN(X:Syntax->(List Syntax)->Tb->Option Tp)(n:Nat)(m:Nat):=vi (Bt X n) (Bu X n) m
def Kg(X:Syntax->(List Syntax)->Tb->Option Tp)(n:Nat):SX (Kf X n) xn qJ 61 x9:=mC
def zN:Nat->Syntax->(List Syntax)->Tb->Option Tp
 |0,_,_,_=>none
 |n+1,a0,o0,o1=>(Kg (zN n) n).1 a0 o0 o1
def IZ:∀n:Nat,zt gB 268 xn qJ qJ (alA 1 kJ) (x9 (zN n))
 |0=>fun _ _ _ h=>(by cases h)
 |n+1=>by
  have XX:=IZ n;exact GC (Kg (zN n) n) (gd (jQ (abg (mV (XX))) (jQ (mV (zH n)) (jQ (mV (XS n)) jT))) jU) func268 ntmps268 results268
@[reducible] def af9:kK Bool:=nh gB f235 n (l1 gB [.tmp 4] mw) (cl:=l6 [(242,VR (nP mo mo (lr .i64) (Gb n)) (nP mo mo (lr .i64) (strings_IndexAny n)))])
def Pe:Ll (af9 n) mo mo 9:=mB
def strings_ContainsAny:=fu fun n=>(Pe n).1
def aeb:∀n:Nat,uu gB 235 mo mo mw (strings_ContainsAny n):=yu fun n=>we (Pe n) (gd (jQ (abh (lw (Q0 n)) (lw (UK n))) jT) jU) func235 ntmps235 results235
open Go.Proofs
@[go_sem]def Pf:ua:=⟨[],[],(zK::lH (lH (lH (l7 (zA::zA::[]))))),[oC [zK,zK,zK,zK,zK],oK,oK,oK],none,none⟩
@[go_sem]abbrev BS(F:kj->Int->Ta->Ta->Ta->Option (To×Unit))(b:To)(a:Unit):=F b.1.1 b.1.2.1 b.2.1 b.2.2.1 b.2.2.2.1
@[go_sem]def RP(F:kj->Int->Ta->Ta->Ta->Option (To×Unit)):=GR [.arg 0 [],.vA 0 2 [],.vA 0 3 [],.vA 0 4 []] k8 (lX 0 kJ) k8 kJ (BS F)
@[reducible] def HH:kK (To×Unit):=nh gB f204 n (w9 gB [] [] [0,1,2,3] 4 k8 kJ) (cl:=l6 [(243,nP mo (lr .i32) mw (RM n)),(244,nP mo mo mw (YJ n)),(245,nP mo mo (ty3 mo mo mw) (strings_Cut n))]) (qj:=oz [([0],Pf)]) (uz:=l2 []) (uC:=l2 [])
@[go_sem]def aiw:anm (HH n) [0,0,0,0] [0,0,1,0,0]:=⟨jN,jN⟩
@[go_sem]abbrev Pg(v0:kj)(v1:Int)(r1 r2 r3:List (kj×Bool)):jS:=⟨(.ptr 0 0::lK (lK (lK (mm (qA::qA::[]))))),[.cells [.str (sb v0),.int .i64 v1,.map 1,.map 2,.map 3],.map (mp GI r1),.map (mp GI r2),.map (mp GI r3)],4,[]⟩
abbrev Ph:=kj->Int->Ta->Ta->Ta->Option (To×Unit)
abbrev aga(K:List Kt)(Z:Ph):Prop:=∀v0 v1 r1 r2 r3,run (HH n) K (Pg v0 v1 r1 r2 r3)=Z v0 v1 r1 r2 r3
def FN:LB (aga n) [0] [.qg 0]:=mB
def FO:Nat->Ph:=ui ((FN n).1)
def awE{n:Nat}:FO n (m+1)=(FN n).1 (FO n m):=rfl
@[go_sem]def aap(m:Nat):=vi (FN n) (FO n) m
def RQ:SX (HH n) (lX 0 kJ) k8 55 BS:=mC
def aRc:=fu fun n=>(RQ n).1
def agb:∀n:Nat,zt gB 204 (lX 0 kJ) k8 k8 kJ (BS (aRc n)):=VX fun n=>GC (RQ n) (gd (jQ (lw (ab3 n)) (jQ (lw (aib n)) (jQ (lw (atd n)) jT))) jU) func204 ntmps204 results204
@[reducible] def NF:kK TG:=nh gB f203 n (w9 gB [.tmp 2,.tmp 3,.tmp 4] [] [0,1,2,3] 4 k8 oW) (cd:=Bp [(242,pR (VR (nP mo mo (lr .i64) (Gb n)) (nP mo mo (lr .i64) (strings_IndexAny n))))]) (uz:=l2 []) (uC:=l2 [])
@[go_sem]def aec:aF9 (NF n) [0,0,1,0,1,1] [0,0,1,1] [0,1] [0,1,1,1]:=⟨jN,jN,jN,jN⟩
def NG:SX (NF n) (lX 0 kJ) k8 45 pu:=mC
def RR:=fu fun n=>(NG n).1
def acm:∀n:Nat,zt gB 203 (lX 0 kJ) k8 k8 oW (pu (RR n)):=VX fun n=>GC (NG n) (gd jT (lC (aDu (qk (Q0 n)) (qk (UK n))) jU)) func203 ntmps203 results203
@[reducible] def aix:kK Tz:=nh gB f82 n (qL gB [] [] [0] 1 jO kJ) (rk:=qM [] [0] 1 jO j1) (cp:=Az [(148,mb (vJ n))]) (wx:=l2 [148])
def RS:SX (aix n) (lX 0 (lW (lr .i64) kJ)) jO 8 p5:=mC2
def nW:=fu fun n=>(RS n).1
def nE:∀n:Nat,tN gB 82 (lX 0 (lW (lr .i64) kJ)) jO true jO kJ jO j1 (p5 (nW n)):=adx fun n=>Ei (RS n) (gd jT jU (p:=(kB (k7 (vK n)) lZ))) func82 ntmps82 results82
@[go_sem]abbrev sE(F:Bool->jP->Option Tz)(b:T6)(a:(Bool×Unit)):=F a.1 b.1.1
@[go_sem]def sF(F:Bool->jP->Option Tz):=xu true [.arg 0 []] jO (lX 0 (lW mw kJ)) jO kJ jO j1 (sE F)
@[reducible] def aed:kK Tz:=nh gB f93 n (qL gB [] [] [0] 1 jO kJ) (rk:=qM [] [0] 1 jO j1) (cp:=Az [(148,mb (vJ n))]) (wx:=l2 [148])
def NH:SX (aed n) (lX 0 (lW mw kJ)) jO 8 sE:=mC2
def qd:=fu fun n=>(NH n).1
def pN:∀n:Nat,tN gB 93 (lX 0 (lW mw kJ)) jO true jO kJ jO j1 (sE (qd n)):=adx fun n=>Ei (NH n) (gd jT jU (p:=(kB (k7 (vK n)) lZ))) func93 ntmps93 results93
@[reducible] def aRd:kK Bool:=nh gB f154 n (l1 gB [.tmp 2] mw) (cl:=l6 [(91,nP (uL jP.kv) mo mw (qc n)),(207,nq (uL jP.kv) mw (BO n))])
def HI:Jx (aRd n) (uL jP.kv) 9:=mB
def ya:=fu fun n=>(HI n).1
def zO:∀n:Nat,uj gB 154 (uL jP.kv) mw (ya n):=ww fun n=>uU (HI n) (gd (jQ (lw (pM n)) (jQ (lB (Df n)) jT)) jU) func154 ntmps154 results154
@[reducible] def NI:kK (Te×(Bool×Unit)):=nh gB f153 n (ao4 gB [.tmp 4] (uf (Ax jP.kv) sM) (VQ mw F8) 1) (cl:=l6 [(88,Ah [0] (uf (Ax jP.kv) sM) (XA 0 IJ) (uf (Ax jP.kv) sM) (VQ mo F8) (fun(b:Te) a=>(mZ n) b.1)),(91,DX (pR (nP (uL jP.kv) mo mw (qc n))))])
def NJ:{B:jP->kj->Option (Te×(Bool×Unit)) //∀(a0:jP)(a1:kj),run (NI n) [.at []] (ini ((XA 0 (asT mo IJ)).enc (a0,()) (a1,())) 13 ((uf (Ax jP.kv) sM).enc (a0,())))=B a0 a1}:=mB
def nM:=fu fun n=>(NJ n).1
def nj:∀(n:Nat)(a0:jP)(a1:kj)(r:(Te×(Bool×Unit))),nM n a0 a1=some r->FnG gB 153 ((XA 0 (asT mo IJ)).enc (a0,()) (a1,())) ((uf (Ax jP.kv) sM).enc (a0,())) (fun o H'=>o=.ret (sZ ((VQ mw F8).enc r.1 r.2))/\H'=(uf (Ax jP.kv) sM).enc r.1)
 |0,_,_,_,h=>by cases h
 |n+1,a0,a1,r,h=>by
  exact vX (M:=NI n) ⟨(jQ (pq (fun b a r h=>(mq n) b.1 r h)) (jQ (qp (qk (pM n))) jT)),jU,pd _,pI _,rK,rL,sA,rX⟩ func153 rfl rfl (by simp only[go_sem,gG,gH,gC,gD,gI,gJ,gL,gM,gN,gE,gK,gO]) ((uf (Ax jP.kv) sM).nb _ _) ntmps153 results153 (fun J hs=>Yi hs) (((NJ n).2 a0 a1).trans h)
open Go.Proofs
@[reducible] def arq:kK Bool:=nh gB f67 n (l1 gB [.tmp 2] mw) (cl:=l6 [(48,nP (lA kW) (lr .i64) mw (Fq n))])
def SO:Jx (arq n) (kZ jR.kv) 13:=mB
def aaq:=fu fun n=>(SO n).1
def apB:∀n:Nat,uj gB 67 (kZ jR.kv) mw (aaq n):=ww fun n=>uU (SO n) (gd (jQ (lw (Qg n)) jT) jU) func67 ntmps67 results67
@[go_sem]def an6:ua:=⟨[],[],(zT (lA kz.row)::zA::zA::zK::lH (zA::zA::zA::[])),[],none,none⟩
@[reducible] def aqo:kK Bool:=nh gB f158 n (l1 gB [.tmp 2] mw) (cl:=l6 [(214,nq (kZ kz.kv) mw (QH n))]) (qj:=oz [([0,1,0,1],an6)])
@[go_sem]abbrev an7(v0:List kz)(v1:Int):jS:=⟨(.kF false 23 (mp kz.cells v0)::qA::qA::.int .i64 v1::lK (qA::qA::qA::[])),[],0,[]⟩
abbrev an8:=(List kz)->Int->Option Bool
abbrev ayh(K:List Kt)(Z:an8):Prop:=∀v0 v1,run (aqo n) K (an7 v0 v1)=Z v0 v1
def NK:LB (ayh n) [0,1,0,1] [.qg 0,.cut [1,1],.at [1,1]]:=mB
def NL:Nat->an8:=ui ((NK n).1)
def aiy{n:Nat}:NL n (m+1)=(NK n).1 (NL n m):=rfl
@[go_sem]def ars(m:Nat):=vi (NK n) (NL n) m
def aiz:Jx (aqo n) (lA kz.row) 23:=mB
def ajK:=fu fun n=>(aiz n).1
def ayi:∀n:Nat,uj gB 158 (lA kz.row) mw (ajK n):=ww fun n=>uU (aiz n) (gd (jQ (lB (apy n)) jT) jU) func158 ntmps158 results158
@[reducible] def atT:kK Bool:=nh gB f255 n (l1 gB [.tmp 2] mw) (cl:=l6 [(287,nq (kZ jW.kv) mw (aRb n))])
def aRe:Jx (atT n) (kZ kz.kv) 87:=mB
def Vq:=fu fun n=>(aRe n).1
def art:∀n:Nat,uj gB 255 (kZ kz.kv) mw (Vq n):=ww fun n=>uU (aRe n) (gd (jQ (lB (ak7 n)) jT) jU) func255 ntmps255 results255
@[reducible] def atU:kK Int:=nh gB f289 n (l1 gB [.tmp 8] (lr .i64)) (cl:=l6 [(50,aHx (kZ jW.kv) (lr .i64) (lr .i64) (lr .i64) (lr .i64) (lr .i64) (HG n)),(306,nP (kZ j6.kv) (kZ jW.kv) (lr .i64) (ve n))])
def aRf:SC4 (atU n) (kZ j6.kv) (kZ jW.kv) (lr .i64) (lr .i64) 20:=mB
def IB:=fu fun n=>(aRf n).1
def SQ:∀n:Nat,aDJ gB 289 (kZ j6.kv) (kZ jW.kv) (lr .i64) (lr .i64) (lr .i64) (IB n):=aMY fun n=>aKQ (aRf n) (gd (jQ (aEy (ais n)) (jQ (lw (WO n)) jT)) jU) func289 ntmps289 results289
@[reducible] def Qi:kK Bool:=nh gB f126 n (l1 gB [.tmp 4] mw) (cl:=l6 [(141,nq mo mw (VB n)),(171,nP (lA kW) mo mw (uX n)),(182,nq mo mw (Ke n))])
def xH:Ll (Qi n) (lA kW) mo 22:=mB
def qO:=fu fun n=>(xH n).1
def xk:∀n:Nat,uu gB 126 (lA kW) mo mw (qO n):=yu fun n=>we (xH n) (gd (jQ (lB (adT n)) (jQ (lw (Gi n)) (jQ (lB (acl n)) jT))) jU) func126 ntmps126 results126
@[go_sem]abbrev pU(F:(List kz)->kj->Option (TK×(Bool×Unit)))(b:TK)(a:((List kz)×(Unit×Unit))):=F a.1 b.1.1
@[go_sem]def wj(F:(List kz)->kj->Option (TK×(Bool×Unit))):=GR [.arg 1 [0]] (tz (Bq (aQO cS 1 kJ)) Bn) mT (tz (Bq (aQO cS 1 kJ)) Bn) (lW mw kJ) (pU F)
@[reducible] def DZ:kK (TK×(Bool×Unit)):=nh gB f262 n (w9 gB [.tmp 4] [] [0] 1 (tz (Bq (aQO cS 1 kJ)) Bn) (lW mw kJ)) (cl:=l6 [(292,xy (qV n))])
def rZ:SX (DZ n) mT (tz (Bq (aQO cS 1 kJ)) Bn) 9 pU:=mC
def qi:=fu fun n=>(rZ n).1
def Dz:∀n:Nat,zt gB 262 mT (tz (Bq (aQO cS 1 kJ)) Bn) (tz (Bq (aQO cS 1 kJ)) Bn) (lW mw kJ) (pU (qi n)):=VX fun n=>GC (rZ n) (gd (jQ (mV (E6 n)) jT) jU) func262 ntmps262 results262
open Go.Proofs
def afw:ua:=⟨[],[],(zK::lH (lH (lH (zA::zA::zT (lA kW)::zK::zK::l7 (l7 (zA::[])))))),[],none,none⟩
def afx:ua:=⟨[],[],(zK::lH (l7 (l7 (l7 (zA::zA::zA::zK::zK::lH (l7 (l7 (l7 (zA::[]))))))))),[],none,none⟩
def afy:ua:=⟨[],[],(zK::l7 (l7 (l7 (zA::zK::zK::lH (lH (l7 (l7 (l7 (zA::zA::zA::[]))))))))),[],none,none⟩
@[reducible] def NM:kK Bool:=nh gB f139 n (l1 gB [.tmp 2] mw) (cl:=l6 [(12,nP mo mo mw (strings_Contains n)),(182,nq mo mw (Ke n)),(193,nq (lr .u8) (lr .i64) (Lr n)),(194,nq (lr .u8) mw (Vi n)),(195,aAd (lA kW) (ah7 n))]) (qj:=oz [([0,1,0,1,1,1,1,1],afw),([0,1,0,1,1,1],afx),([0,1,0,0,1,0,1,1],afy)])
attribute [go_sem] afw afx afy
abbrev afz(v0:kj)(v1:List kj)(v2 v3:Int):jS:=⟨(.str (sb v0)::lK (lK (lK (qA::qA::.kF false 1 (mp kX v1)::.int .i64 v2::.int .i64 v3::mm (mm (qA::[])))))),[],0,[]⟩
abbrev afA:=kj->(List kj)->Int->Int->Option Bool
abbrev aru(K:List Kt)(Z:afA):Prop:=∀v0 v1 v2 v3,run (NM n) K (afz v0 v1 v2 v3)=Z v0 v1 v2 v3
abbrev afB(v0:kj)(v1 v2:Int):jS:=⟨(.str (sb v0)::lK (mm (mm (mm (qA::qA::qA::.int .i64 v1::.int .i64 v2::lK (mm (mm (mm (qA::[]))))))))),[],0,[]⟩
abbrev KJ:=kj->Int->Int->Option Bool
abbrev arv(K:List Kt)(Z:KJ):Prop:=∀v0 v1 v2,run (NM n) K (afB v0 v1 v2)=Z v0 v1 v2
abbrev afC(v0:kj)(v1 v2:Int):jS:=⟨(.str (sb v0)::mm (mm (mm (qA::.int .i64 v1::.int .i64 v2::lK (lK (mm (mm (mm (qA::qA::qA::[]))))))))),[],0,[]⟩
abbrev arw(K:List Kt)(Z:KJ):Prop:=∀v0 v1 v2,run (NM n) K (afC v0 v1 v2)=Z v0 v1 v2
attribute [go_sem] afz afB afC
def SR:LB (aru n) [0,1,0,1,1,1,1,1] [.qg 4,.cut [1,1,1,1,1,1],.at [1,1,1,1,1,1]]:=mB
def SS:Nat->afA:=ui ((SR n).1)
def aE0{n:Nat}:SS n (m+1)=(SR n).1 (SS n m):=rfl
@[go_sem]def ami(m:Nat):=vi (SR n) (SS n) m
def SU:LB (arv n) [0,1,0,1,1,1] [.qg 2,.cut [1,1,1,1],.at [1,1,1,1]]:=mB
def SV:Nat->KJ:=ui ((SU n).1)
def aE1{n:Nat}:SV n (m+1)=(SU n).1 (SV n m):=rfl
@[go_sem]def amj(m:Nat):=vi (SU n) (SV n) m
def SW:LB (arw n) [0,1,0,0,1,0,1,1] aag:=mB
def SY:Nat->KJ:=ui ((SW n).1)
def aE2{n:Nat}:SY n (m+1)=(SW n).1 (SY n m):=rfl
@[go_sem]def amk(m:Nat):=vi (SW n) (SY n) m
def aiA:Jx (NM n) mo 63:=mB
def aee:=fu fun n=>(aiA n).1
def afD:∀n:Nat,uj gB 139 mo mw (aee n):=ww fun n=>uU (aiA n) (gd (jQ (lw (Cz n)) (jQ (lB (acl n)) (jQ (lB (Hh n)) (jQ (lB (SE n)) (jQ (am5 (ah8 n)) jT))))) jU) func139 ntmps139 results139
@[go_sem]abbrev BT(F:kj->jP->Option Tz)(b:T6)(a:(kj×Unit)):=F a.1 b.1.1
@[go_sem]def pE(F:kj->jP->Option Tz):=xu true [.arg 0 []] jO (lX 0 (lW mo kJ)) jO kJ jO j1 (BT F)
@[reducible] def aiB:kK Tz:=nh gB f151 n (qL gB [] [] [0] 1 jO kJ) (cl:=l6 [(85,DX (pR (Zv (uL jP.kv) (lr .i64) mo mw (Al n)))),(88,Ah [0] (uf (Ax jP.kv) sM) (XA 0 IJ) (uf (Ax jP.kv) sM) (VQ mo F8) (fun(b:Te) a=>(mZ n) b.1)),(91,DX (pR (nP (uL jP.kv) mo mw (qc n))))]) (rk:=qM [] [0] 1 jO j1) (cp:=Az [(93,sF (qd n))]) (wx:=l2 [93])
def RT:SX (aiB n) (lX 0 (lW mo kJ)) jO 16 BT:=mC2
def qm:=fu fun n=>(RT n).1
def pP:∀n:Nat,tN gB 151 (lX 0 (lW mo kJ)) jO true jO kJ jO j1 (BT (qm n)):=adx fun n=>Ei (RT n) (gd (jQ (qp (abc (zj n))) (jQ (pq (fun b a r h=>(mq n) b.1 r h)) (jQ (qp (qk (pM n))) jT))) jU (p:=(kB (k7 (pN n)) lZ))) func151 ntmps151 results151
@[go_sem]abbrev qe(F:jP->Option (PR TJ (T6×T8)))(b:T6)(a:Unit):=F b.1.1
@[go_sem]def ou(F:jP->Option (PR TJ (T6×T8))):=xu true [.arg 0 []] jO (lX 0 kJ) jO (lW mo kJ) jO j1 (qe F)
@[reducible] def aar:kK (PR TJ (T6×T8)):=nh gB f149 n (qL gB [.tmp 2] [] [0] 1 jO (lW mo kJ)) (cl:=l6 [(88,Ah [0] (uf (Ax jP.kv) sM) (XA 0 IJ) (uf (Ax jP.kv) sM) (VQ mo F8) (fun(b:Te) a=>(mZ n) b.1)),(154,DX (pR (nq (uL jP.kv) mw (ya n))))]) (rk:=qM [] [0] 1 jO j1) (cp:=Az [(93,sF (qd n))]) (wx:=l2 [93])
def Kh:SX (aar n) (lX 0 kJ) jO 9 qe:=mC2
def uq:=fu fun n=>(Kh n).1
def uy:∀n:Nat,tN gB 149 (lX 0 kJ) jO true jO (lW mo kJ) jO j1 (qe (uq n)):=adx fun n=>Ei (Kh n) (gd (jQ (pq (fun b a r h=>(mq n) b.1 r h)) (jQ (qp (nu (zO n))) jT)) jU (p:=(kB (k7 (pN n)) lZ))) func149 ntmps149 results149
@[go_sem]abbrev zP(F:jP->Option T13)(b:T6)(a:Unit):=F b.1.1
@[go_sem]def zQ(F:jP->Option T13):=xu true [.arg 0 []] jO (lX 0 kJ) jO (lW (lr .i64) kJ) jO j1 (zP F)
@[reducible] def aef:kK T13:=nh gB f327 n (qL gB [.tmp 2] [] [0] 1 jO (lW (lr .i64) kJ)) (cl:=l6 [(88,Ah [0] (uf (Ax jP.kv) sM) (XA 0 IJ) (uf (Ax jP.kv) sM) (VQ mo F8) (fun(b:Te) a=>(mZ n) b.1)),(94,DX (pR (nq (uL jP.kv) (kZ lz.kv) (nr n)))),(333,nq mo (Qr (lr .i64) aIp) (strconv_Atoi n))]) (rk:=qM [] [0] 1 jO j1) (cp:=Az [(93,sF (qd n))]) (wx:=l2 [93])
def NO:SX (aef n) (lX 0 kJ) jO 18 zP:=mC2
def BU:=fu fun n=>(NO n).1
def DA:∀n:Nat,tN gB 327 (lX 0 kJ) jO true jO (lW (lr .i64) kJ) jO j1 (zP (BU n)):=adx fun n=>Ei (NO n) (gd (jQ (pq (fun b a r h=>(mq n) b.1 r h)) (jQ (qp (nu (mO n))) (jQ (lB (aqP n)) jT))) jU (p:=(kB (k7 (pN n)) lZ))) func327 ntmps327 results327
@[reducible] def aRg:kK (PR TJ (T6×T8)):=nh gB f340 n (qL gB [.tmp 2] [] [0] 1 jO (lW mo kJ)) (cl:=l6 [(88,Ah [0] (uf (Ax jP.kv) sM) (XA 0 IJ) (uf (Ax jP.kv) sM) (VQ mo F8) (fun(b:Te) a=>(mZ n) b.1)),(207,DX (pR (nq (uL jP.kv) mw (BO n))))]) (rk:=qM [] [0] 1 jO j1) (cp:=Az [(93,sF (qd n))]) (wx:=l2 [93])
def HJ:SX (aRg n) (lX 0 kJ) jO 9 qe:=mC2
def Cf:=fu fun n=>(HJ n).1
def Gu:∀n:Nat,tN gB 340 (lX 0 kJ) jO true jO (lW mo kJ) jO j1 (qe (Cf n)):=adx fun n=>Ei (HJ n) (gd (jQ (pq (fun b a r h=>(mq n) b.1 r h)) (jQ (qp (nu (Df n))) jT)) jU (p:=(kB (k7 (pN n)) lZ))) func340 ntmps340 results340
@[reducible] def aiC:kK (PR TJ (T6×T8)):=nh gB f326 n (qL gB [.tmp 2] [] [0] 1 jO (lW mo kJ)) (cl:=l6 [(88,Ah [0] (uf (Ax jP.kv) sM) (XA 0 IJ) (uf (Ax jP.kv) sM) (VQ mo F8) (fun(b:Te) a=>(mZ n) b.1)),(94,DX (pR (nq (uL jP.kv) (kZ lz.kv) (nr n))))]) (rk:=qM [] [0] 1 jO j1) (cp:=Az [(93,sF (qd n))]) (wx:=l2 [93])
def RU:SX (aiC n) (lX 0 kJ) jO 11 qe:=mC2
def KY:=fu fun n=>(RU n).1
def Pj:∀n:Nat,tN gB 326 (lX 0 kJ) jO true jO (lW mo kJ) jO j1 (qe (KY n)):=adx fun n=>Ei (RU n) (gd (jQ (pq (fun b a r h=>(mq n) b.1 r h)) (jQ (qp (nu (mO n))) jT)) jU (p:=(kB (k7 (pN n)) lZ))) func326 ntmps326 results326
open Go.Proofs
@[go_sem]abbrev zR(F:jP->Option Tz)(b:T6)(a:Unit):=F b.1.1
@[go_sem]def NP(F:jP->Option Tz):=xu true [.arg 0 []] jO (lX 0 kJ) jO kJ jO j1 (zR F)
@[reducible] def zS:kK Tz:=nh gB f45 n (qL gB [] [] [0] 1 jO kJ) (rk:=qM [] [0] 1 jO j1) (co:=aQQ [(93,IK [.arg 0 []] jO (lX 0 (lW mw kJ)) jO kJ jO j1 (sE (qd n))),(94,aeY (pR (nq (uL jP.kv) (kZ lz.kv) (nr n))))]) (uz:=l2 [93,94]) (uC:=l2 [])
def aeg:so (zS n) []=true:=jN
def aeh:Mt (zS n) [] 6 9=true:=jN
def aei:Zt (zS n) [] 9=true:=jN
attribute [go_sem] aeg aeh aei
def NQ:SX (zS n) (lX 0 kJ) jO 12 zR:=mC2
def RV:=fu fun n=>(NQ n).1
def acn:∀n:Nat,tN gB 45 (lX 0 kJ) jO true jO kJ jO j1 (zR (RV n)):=adx fun n=>Ei (NQ n) (gd jT jU (c:=(nQ (Ay (pN n)) (nQ (QZ (nu (mO n))) tP)))) func45 ntmps45 results45
open Go.Proofs
@[go_sem]def wQ:ua:=⟨[],[],(zT (lA jR.row)::zT (tyF 67)::l7 (zA::zK::zK::l7 (l7 (zA::zA::[])))),[],none,none⟩
@[reducible] def xj:kK Int:=nh gB f74 n (l1 gB [.tmp 4] (lr .i64)) (cl:=l6 [(67,nq (kZ jR.kv) mw (aaq n))]) (qj:=oz [([0,1,0,1],wQ)])
@[go_sem]abbrev wR(v0:List jR)(v1 v2:Int):jS:=⟨(.kF false 4 (mp jR.cells v0)::.func (.func 67) [] []::mm (qA::.int .i64 v1::.int .i64 v2::mm (mm (qA::qA::[])))),[],0,[]⟩
abbrev wS:=(List jR)->Int->Int->Option Int
abbrev ED(K:List Kt)(Z:wS):Prop:=∀v0 v1 v2,run (xj n) K (wR v0 v1 v2)=Z v0 v1 v2
def oI:LB (ED n) [0,1,0,1] [.qg 0,.cut [1,1],.at [1,1]]:=mB
def oJ:Nat->wS:=ui ((oI n).1)
def vL{n:Nat}:oJ n (m+1)=(oI n).1 (oJ n m):=rfl
@[go_sem]def Ct(m:Nat):=vi (oI n) (oJ n) m
def sR:Ll (xj n) (lA jR.row) (tyF 67) 19:=mB
def tG:=fu fun n=>(sR n).1
def EE:∀n:Nat,uu gB 74 (lA jR.row) (tyF 67) (lr .i64) (tG n):=yu fun n=>we (sR n) (gd (jQ (lB (apB n)) jT) jU) func74 ntmps74 results74
@[go_sem]def afE:ua:=⟨[],[],(zA::zA::zK::zK::zK::zK::zA::zA::zA::zK::wv (lH (lH (l7 [])))),[oT j6.kv,oT ld.kv],none,none⟩
@[reducible] def Xa(X:j6->ld->Int->Int->Option Int)(n:Nat):kK Int:=nh gB f290 n (l1 gB [.tmp 8] (lr .i64)) (cl:=l6 [(24,nP (lA kz.row) mo (Qr (kZ Entry.kv) (lr .i64)) (KT n)),(287,nq (kZ jW.kv) mw (aRb n)),(289,ao2 (kZ j6.kv) (kZ jW.kv) (lr .i64) (lr .i64) (lr .i64) (IB n)),(307,nP (kZ ld.kv) (kZ ld.kv) mw (yn n))]) (cd:=Bp [(290,pR (ao2 (kZ j6.kv) (kZ ld.kv) (lr .i64) (lr .i64) (lr .i64) X)),(308,pR (nP (kZ kz.kv) (lr .i64) (lr .i64) (Vh n)))]) (qj:=oz [([0,1,0,1,1,1,1,1],afE)]) (uz:=l2 []) (uC:=l2 [])
@[go_sem]def atV(X:j6->ld->Int->Int->Option Int)(n:Nat):so (Xa X n) [0,1,1,1,1,0,0,1,0,0,1,0,1,1,1,1,1]=true:=jN
@[go_sem]abbrev afF(v0 v1 v2:Int)(o0:j6)(o1:ld):jS:=⟨(qA::qA::.int .i64 v0::.int .i64 v1::.ptr 0 0::.ptr 1 0::qA::qA::qA::.int .i64 v2::wu (lK (lK (mm [])))),[.cells (j6.cells o0),.cells (ld.cells o1)],0,[]⟩
abbrev afG:=Int->Int->Int->j6->ld->Option Int
abbrev arx(X:j6->ld->Int->Int->Option Int)(n:Nat)(K:List Kt)(Z:afG):Prop:=∀v0 v1 v2 o0 o1,run (Xa X n) K (afF v0 v1 v2 o0 o1)=Z v0 v1 v2 o0 o1
def E7(X:j6->ld->Int->Int->Option Int)(n:Nat):LB (arx X n) [0,1,0,1,1,1,1,1] [.qg 1,.cut [1,1,1,1,1,1],.at [1,1,1,1,1,1]]:=mB
def E8(X:j6->ld->Int->Int->Option Int)(n:Nat):Nat->afG:=ui ((E7 X n).1)
def aQX(X:j6->ld->Int->Int->Option Int){n:Nat}:E8 X n (m+1)=(E7 X n).1 (E8 X n m):=rfl
@[go_sem]def aml(X:j6->ld->Int->Int->Option Int)(n:Nat)(m:Nat):=vi (E7 X n) (E8 X n) m
def Xb(X:j6->ld->Int->Int->Option Int)(n:Nat):SC4 (Xa X n) (kZ j6.kv) (kZ ld.kv) (lr .i64) (lr .i64) 110:=mB
def BV:Nat->j6->ld->Int->Int->Option Int
 |0,_,_,_,_=>none
 |n+1,a0,a1,a2,a3=>(Xb (BV n) n).1 a0 a1 a2 a3
def afH:∀n:Nat,aDJ gB 290 (kZ j6.kv) (kZ ld.kv) (lr .i64) (lr .i64) (lr .i64) (BV n)
 |0=>fun _ _ _ _ _ h=>(by cases h)
 |n+1=>by
  have ary:=afH n;exact aKQ (Xb (BV n) n) (gd (jQ (lw (Qz n)) (jQ (lB (ak7 n)) (jQ (arP (SQ n)) (jQ (lw (YZ n)) jT)))) (lC (am6 (ary)) (lC (qk (aq3 n)) jU))) func290 ntmps290 results290
@[reducible] def Vr:kK Bool:=nh gB f168 n (l1 gB [.tmp 4] mw) (cl:=l6 [(12,nP mo mo mw (strings_Contains n)),(126,nP (lA kW) mo mw (qO n))])
def zU:Ll (Vr n) (lA kW) mo 13:=mB
def qK:=fu fun n=>(zU n).1
def vf:∀n:Nat,uu gB 168 (lA kW) mo mw (qK n):=yu fun n=>we (zU n) (gd (jQ (lw (Cz n)) (jQ (lw (xk n)) jT)) jU) func168 ntmps168 results168
@[reducible] def apC:kK Bool:=nh gB f221 n (l1 gB [.tmp 4] mw) (cl:=l6 [(262,wj (qi n))]) (cut:=Mh [([1,1],[1])])
def Qj:Ll (apC n) (kZ kH.kv) mo 9:=mB
def A7:=fu fun n=>(Qj n).1
def NR:∀n:Nat,uu gB 221 (kZ kH.kv) mo mw (A7 n):=yu fun n=>we (Qj n) (gd (jQ (mV (Dz n)) jT) jU) func221 ntmps221 results221
@[go_sem]def aQY:ua:=⟨[],[],(zA::zK::lH (lH (l7 (l7 (zA::zA::zA::zT (lA kW)::zK::zK::lH (lH (l7 (l7 (zA::zA::[]))))))))),[oT jR.kv],none,none⟩
@[go_sem]def aQZ:ua:=⟨[],[],(zA::zK::zA::zK::l7 (l7 (l7 (zA::zA::zA::zT (lA kW)::zK::zK::wv (l7 []))))),[oT jR.kv],none,none⟩
@[reducible] def Qk:kK Int:=nh gB f76 n (l1 gB [.tmp 2] (lr .i64)) (cl:=l6 [(78,nq (kZ jR.kv) mw (Fp n)),(139,nq mo mw (aee n)),(140,nq (kZ jR.kv) mw (C8 n)),(141,nq mo mw (VB n))]) (qj:=oz [([0,1,0,1,1,1,1,1],aQY),([0,1,0,1,1,1],aQZ)])
@[go_sem]abbrev aQ0(v0:List kj)(v1 v2:Int)(o0:jR):jS:=⟨(qA::.ptr 0 0::lK (lK (mm (mm (qA::qA::qA::.kF false 1 (mp kX v0)::.int .i64 v1::.int .i64 v2::lK (lK (mm (mm (qA::qA::[]))))))))),[.cells (jR.cells o0)],0,[]⟩
abbrev aQ1:=(List kj)->Int->Int->jR->Option Int
abbrev an9(K:List Kt)(Z:aQ1):Prop:=∀v0 v1 v2 o0,run (Qk n) K (aQ0 v0 v1 v2 o0)=Z v0 v1 v2 o0
@[go_sem]abbrev aQ2(v0:Int)(v1:List kj)(v2 v3:Int)(o0:jR):jS:=⟨(qA::.ptr 0 0::qA::.int .i64 v0::mm (mm (mm (qA::qA::qA::.kF false 1 (mp kX v1)::.int .i64 v2::.int .i64 v3::wu (mm []))))),[.cells (jR.cells o0)],0,[]⟩
abbrev aQ3:=Int->(List kj)->Int->Int->jR->Option Int
abbrev aoa(K:List Kt)(Z:aQ3):Prop:=∀v0 v1 v2 v3 o0,run (Qk n) K (aQ2 v0 v1 v2 v3 o0)=Z v0 v1 v2 v3 o0
def NS:LB (an9 n) [0,1,0,1,1,1,1,1] [.qg 2,.cut [1,1,1,1,1,1],.at [1,1,1,1,1,1]]:=mB
def NT:Nat->aQ1:=ui ((NS n).1)
def aBQ{n:Nat}:NT n (m+1)=(NS n).1 (NT n m):=rfl
@[go_sem]def aiD(m:Nat):=vi (NS n) (NT n) m
def NU:LB (aoa n) [0,1,0,1,1,1] [.qg 0,.cut [1,1,1,1],.at [1,1,1,1]]:=mB
def NV:Nat->aQ3:=ui ((NU n).1)
def aBR{n:Nat}:NV n (m+1)=(NU n).1 (NV n m):=rfl
@[go_sem]def aiE(m:Nat):=vi (NU n) (NV n) m
def aco:Jx (Qk n) (kZ jR.kv) 90:=mB
def aiF:=fu fun n=>(aco n).1
def aob:∀n:Nat,uj gB 76 (kZ jR.kv) (lr .i64) (aiF n):=ww fun n=>uU (aco n) (gd (jQ (lB (C7 n)) (jQ (lB (afD n)) (jQ (lB (BG n)) (jQ (lB (adT n)) jT)))) jU) func76 ntmps76 results76
def ak9:ua:=⟨[(15,3,true)],[],(zK::l7 (zA::zA::zK::l7 (zA::zA::zK::zK::wv (lH (lH (lH [])))))),[oK,oK,oK,oC [zK,zK,zK,zK,zK],oC [zK,zK,zK,zK],oA lz.row],none,none⟩
def ala:ua:=⟨[],[],(zK::l7 (zA::zA::zK::lH (lH (zA::zA::zT (lA aAJ)::zK::zK::zA::zA::zA::zT (lA kW)::zK::zK::wv (l7 (l7 (l7 (zA::[])))))))),[oK,oK,oK,oC [zK,zK,zK,zK,zK]],none,none⟩
def alb:ua:=⟨[],[],(zK::l7 (zA::zA::zK::lH (lH (zA::zA::zT (lA aAJ)::zK::zK::wv (lH (zA::zA::zA::[])))))),[oK,oK,oK,oC [zK,zK,zK,zK,zK]],none,none⟩
def alc:ua:=⟨[],[],(zK::zT (lA kW)::l7 (zA::zK::lH (zA::zT (lA kW)::zK::zK::wv (lH (lH (l7 [])))))),[oK,oK,oK,oC [zK,zK,zK,zK,zK]],none,none⟩
@[reducible] def EF:kK TR:=nh gB f147 n (l1 gB [.tmp 4,.tmp 5,.tmp 6] (ty3 (lA lz.row) (lr .i64) (lr .i64))) (cl:=l6 [(139,nq mo mw (aee n)),(193,nq (lr .u8) (lr .i64) (Lr n)),(195,aAd (lA kW) (ah7 n)),(199,Qf (HE n)),(200,wF (Ra n)),(201,wF (WR n)),(202,wF (RO n)),(203,wF (RR n)),(204,RP (aRc n))]) (qj:=oz [([0,1,0,1,1,1,1,1,1,1],ak9),([0,1,1,0,0,1,1,0,0,1,0,1,1,1],ala),([0,1,0,1,1,1],alb),([0,1,0,1,1],alc)]) (uz:=l2 []) (uC:=l2 [])
def ayj:so (EF n) [0,1,1,0,0,1,0,0,1,0,1,1,1,1,1,1,1]=true:=jN
def ayk:aDH (EF n) [0,1,1,0,0,1,0,0,1,0,1,1,1,1,1,1,1] 6 15 8 15 12 15:=⟨jN,jN,jN⟩
attribute [go_sem] ayj ayk ak9 ala alb alc
abbrev ald(v0:kj)(r0 r1 r2:List (kj×Bool))(v4:kj)(v5:Int)(r5:List lz)(c5:Nat):jS:=⟨(.str (sb v0)::mm (qA::qA::.ptr 3 0::mm (qA::qA::.ptr 4 0::.lR 5 c5::wu (lK (lK (lK [])))))),[.map (mp GI r0),.map (mp GI r1),.map (mp GI r2),.cells [.str (sb v4),.int .i64 v5,.map 0,.map 1,.map 2],.cells [.func (.func 200) [.ptr 3 0] [],.func (.func 201) [.ptr 3 0] [],.func (.func 202) [.ptr 3 0] [],.func (.func 203) [.ptr 3 0] []],.lR true 3 (mp lz.cells r5)],0,[]⟩
abbrev ale:List Kt:=[.qg 6,.cut [1,1,1,1,1,1,1,1],.at [1,1,1,1,1,1,1,1]]
abbrev alf:=kj->Ta->Ta->Ta->kj->Int->(List lz)->Option TR
abbrev avx(K:List Kt)(Z:alf):Prop:=∀v0 r0 r1 r2 v4 v5 r5 c5,c5=r5.length->run (EF n) K (ald v0 r0 r1 r2 v4 v5 r5 c5)=Z v0 r0 r1 r2 v4 v5 r5
abbrev alg(v0:kj)(v1:List (List kj))(v2 v3:Int)(v4:List kj)(v5 v6:Int)(r0 r1 r2:List (kj×Bool))(v10:kj):jS:=⟨(.str (sb v0)::mm (qA::qA::.ptr 3 0::lK (lK (qA::qA::.kF false 1 (mp ag1 v1)::.int .i64 v2::.int .i64 v3::qA::qA::qA::.kF false 1 (mp kX v4)::.int .i64 v5::.int .i64 v6::wu (mm (mm (mm (qA::[])))))))),[.map (mp GI r0),.map (mp GI r1),.map (mp GI r2),.cells [.str (sb v10),.int .i64 0,.map 0,.map 1,.map 2]],0,[]⟩
abbrev alh(m3:Nat):List Kt:=[.qg 4,.qg 3,.cut [1,1,1,0,0,1,0,1,1,1],.at [1,1,1,0,0,1,0,1,1,1],.lp m3 [0,1,0,1,1,1],.qg 2,.cut [1,1,1,1],.at [1,1,1,1]]
abbrev ali:=kj->(List (List kj))->Int->Int->(List kj)->Int->Int->Ta->Ta->Ta->kj->Option TR
abbrev avy(K:List Kt)(Z:ali):Prop:=∀v0 v1 v2 v3 v4 v5 v6 r0 r1 r2 v10,run (EF n) K (alg v0 v1 v2 v3 v4 v5 v6 r0 r1 r2 v10)=Z v0 v1 v2 v3 v4 v5 v6 r0 r1 r2 v10
abbrev alj(v0:kj)(v1:List (List kj))(v2 v3:Int)(r0 r1 r2:List (kj×Bool))(v7:kj):jS:=⟨(.str (sb v0)::mm (qA::qA::.ptr 3 0::lK (lK (qA::qA::.kF false 1 (mp ag1 v1)::.int .i64 v2::.int .i64 v3::wu (lK (qA::qA::qA::[])))))),[.map (mp GI r0),.map (mp GI r1),.map (mp GI r2),.cells [.str (sb v7),.int .i64 0,.map 0,.map 1,.map 2]],0,[]⟩
abbrev QJ:=kj->(List (List kj))->Int->Int->Ta->Ta->Ta->kj->Option TR
abbrev aas(K:List Kt)(Z:QJ):Prop:=∀v0 v1 v2 v3 r0 r1 r2 v7,run (EF n) K (alj v0 v1 v2 v3 r0 r1 r2 v7)=Z v0 v1 v2 v3 r0 r1 r2 v7
abbrev alk(v0:kj)(v1 v2:List kj)(v3 v4:Int)(r0 r1 r2:List (kj×Bool))(v8:kj):jS:=⟨(.str (sb v0)::.kF false 1 (mp kX v1)::mm (qA::.ptr 3 0::lK (qA::.kF false 1 (mp kX v2)::.int .i64 v3::.int .i64 v4::wu (lK (lK (mm [])))))),[.map (mp GI r0),.map (mp GI r1),.map (mp GI r2),.cells [.str (sb v8),.int .i64 0,.map 0,.map 1,.map 2]],0,[]⟩
abbrev alm:=kj->(List kj)->(List kj)->Int->Int->Ta->Ta->Ta->kj->Option TR
abbrev avz(K:List Kt)(Z:alm):Prop:=∀v0 v1 v2 v3 v4 r0 r1 r2 v8,run (EF n) K (alk v0 v1 v2 v3 v4 r0 r1 r2 v8)=Z v0 v1 v2 v3 v4 r0 r1 r2 v8
attribute [go_sem] ald ale alg alh alj alk
def aat:LB (avx n) [0,1,0,1,1,1,1,1,1,1] ale:=mB
def aau:Nat->alf:=ui ((aat n).1)
def aGD{n:Nat}:aau n (m+1)=(aat n).1 (aau n m):=rfl
@[go_sem]def acp(m:Nat):=vi (aat n) (aau n) m
def aav:LB2 (aas n) [0,1,0,1,1,1] [.qg 2,.cut [1,1,1,1],.at [1,1,1,1]] (avy n) [0,1,1,0,0,1,1,0,0,1,0,1,1,1] alh:=mB
def aaw(X3:QJ):Nat->ali:=ui ((aav n).1 X3)
def aGE{n:Nat}(X3:QJ):aaw n X3 (m+1)=(aav n).1 X3 (aaw n X3 m):=rfl
def apD{m3:Nat}{X3}(h3:aas n (.lq m3 [0,1,0,1,1,1]::[.qg 2,.cut [1,1,1,1],.at [1,1,1,1]]) X3)(m:Nat):=aDI (aav n) h3 (aaw n X3) m
def aax:LB (aas n) [0,1,0,1,1,1] [.qg 2,.cut [1,1,1,1],.at [1,1,1,1]]:=by
 apply Subtype.mk;intro m X0 ih v0 v1 v2 v3 r0 r1 r2 v7;simp (config:={maxSteps:=100000000}) only[go_sem,gG,gH,gC,gD,gI,gJ,gL,gM,gN,gE,gK,gO,f147,gF,mixed,acp n,apD n ih,ih];exact rfl
def aay:Nat->QJ:=ui ((aax n).1)
def aGF{n:Nat}:aay n (m+1)=(aax n).1 (aay n m):=rfl
@[go_sem]def apE(m:Nat):=vi (aax n) (aay n) m
def aaz:LB (avz n) [0,1,0,1,1] [.qg 0,.cut [1,1,1],.at [1,1,1]]:=mB
def aaA:Nat->alm:=ui ((aaz n).1)
def aGG{n:Nat}:aaA n (m+1)=(aaz n).1 (aaA n m):=rfl
@[go_sem]def apF(m:Nat):=vi (aaz n) (aaA n) m
def aoc:Ll (EF n) mo (lA kW) 128:=mB
def atW:=fu fun n=>(aoc n).1
def avA:∀n:Nat,uu gB 147 mo (lA kW) (ty3 (lA lz.row) (lr .i64) (lr .i64)) (atW n):=yu fun n=>we (aoc n) (gd (jQ (lB (afD n)) (jQ (lB (Hh n)) (jQ (am5 (ah8 n)) (jQ (mV (YT n)) (jQ (mV (abG n)) (jQ (mV (af8 n)) (jQ (mV (ab5 n)) (jQ (mV (acm n)) (jQ (mV (agb n)) jT))))))))) jU) func147 ntmps147 results147
open Go.Proofs
@[go_sem]abbrev uN(F:jP->Option TC)(b:T6)(a:Unit):=F b.1.1
@[go_sem]def Pk(F:jP->Option TC):=xu true [.arg 0 []] jO (lX 0 kJ) jO (lW (lA j7.row) kJ) jO j1 (uN F)
@[go_sem]def nU:=(lX 0 (alF 339 (vlP 1 (vlP 2 vlN)) kJ))
@[go_sem]def kU:=(tz (Bq (aQO jP.kv 6 kJ)) (tz (Bq (alA 3 kJ)) (tz (Bq (lX 0 kJ)) (tz (ogA false j7.row) Bn))))
@[go_sem]abbrev n4(F:jP->(List j7)->Option Tm)(b:(Te×(Unit×(Unit×((List j7)×Unit)))))(a:(Unit×Unit)):=F b.1.1 b.2.2.2.1
@[go_sem]def vM(F:jP->(List j7)->Option Tm):=xu true [.arg 0 [],.arg 1 [0],.arg 1 [1],.vA 1 0 []] kU nU kU kJ kU j1 (n4 F)
@[go_sem]def mW:=(tz (Bq (alA 2 kJ)) (tz (Bq (lX 3 kJ)) (tz (ogA false j7.row) (tz (Bq (aQO jP.kv 6 kJ)) Bn))))
@[go_sem]abbrev vN(F:(List j7)->jP->Option Ts)(b:(Unit×(Unit×((List j7)×T6))))(a:Unit):=F b.2.2.1 b.2.2.2.1.1
@[go_sem]def L0(F:(List j7)->jP->Option Ts):=xu true [.arg 0 [],.arg 1 [],.vA 0 0 [],.vA 1 0 []] mW (lX 0 (lX 1 kJ)) mW kJ mW j1 (vN F)
structure lE where
 rG:jP->Option TC
 mc:jP->(List j7)->Option Tm
 rB:(List j7)->jP->Option Ts
open Go.Proofs
def NW:ua:=⟨[],[],(zA::zA::zA::zK::zK::zK::wv (lH (lH (l7 (l7 (zA::zA::zK::zK::lH (l7 (zA::zA::[])))))))),[oT jP.kv,oD,oC [zK],oA j7.row],none,none⟩
@[reducible] def rC(X:lE)(n:Nat):kK TC:=nh gB f335 n (qL gB [.tmp 2] [] [0] 1 jO (lW (lA j7.row) kJ)) (cl:=l6 [(84,DX (pR (nq (uL jP.kv) (lr .i64) (vD n)))),(88,Ah [0] (uf (Ax jP.kv) sM) (XA 0 IJ) (uf (Ax jP.kv) sM) (VQ mo F8) (fun(b:Te) a=>(mZ n) b.1)),(94,DX (pR (nq (uL jP.kv) (kZ lz.kv) (nr n)))),(153,Ah [0] (uf (Ax jP.kv) sM) (XA 0 (asT mo IJ)) (uf (Ax jP.kv) sM) (VQ mw F8) (fun(b:Te) a=>(nM n) b.1 a.1))]) (qj:=oz [([0,1,0,1,1,1,1,1,1],NW)]) (cut:=as5 [([1,0,1,0,1,1,1],[3]),([1,1,1,1,1,1,1,1],[3])] [([1,1,0,1,1,1,0,0,1,1],2,0,2,false)]) (rk:=qM [] [0] 1 jO j1) (co:=aQQ [(85,aeY (pR (Zv (uL jP.kv) (lr .i64) mo mw (Al n))))]) (cp:=Az [(151,pE (qm n)),(327,zQ (BU n)),(330,vM X.mc),(340,ou (Cf n))]) (wx:=l2 [151,327,330,340]) (uz:=l2 [85]) (uC:=l2 [])
def agc(X:lE)(n:Nat):so (rC X n) [0,1,1,0,0,1,1]=true:=jN
def agd(X:lE)(n:Nat):xR (rC X n) [0,1,1,0,0,1,1] 0 3 3 5 3 9 3 11/\xR (rC X n) [0,1,1,0,0,1,1] 3 15 3 16 3 20 3 24/\xR (rC X n) [0,1,1,0,0,1,1] 3 25 3 29 3 31 3 33/\xR (rC X n) [0,1,1,0,0,1,1] 3 37 3 41 3 42 3 46/\auY (rC X n) [0,1,1,0,0,1,1] 3 48 3 50:=⟨⟨jN,jN,jN,jN⟩,⟨jN,jN,jN,jN⟩,⟨jN,jN,jN,jN⟩,⟨jN,jN,jN,jN⟩,jN,jN⟩
attribute [go_sem] agc agd NW
@[go_sem]abbrev NX(v0 v1 v2 v3:Int)(o0:jP)(r3:List j7)(c3:Nat):jS:=⟨(qA::qA::qA::.ptr 2 0::.int .i64 v0::.int .i64 v1::wu (lK (lK (mm (mm (qA::qA::.int .i64 v2::.int .i64 v3::lK (mm (qA::qA::[])))))))),[.cells (jP.cells o0),.vZ,.cells [.lR 3 c3],.lR false 2 (mp j7.cells r3)],1,[]⟩
@[go_sem]abbrev NY:List Kt:=[.qg 1,.cut [1,1,1,1,1,1,1],.at [1,1,1,1,1,1,1]]
abbrev N1:=Int->Int->Int->Int->jP->(List j7)->Option TC
abbrev aej(X:lE)(n:Nat)(K:List Kt)(Z:N1):Prop:=∀v0 v1 v2 v3 o0 r3 c3,c3=r3.length->run (rC X n) K (NX v0 v1 v2 v3 o0 r3 c3)=Z v0 v1 v2 v3 o0 r3
def EG(X:lE)(n:Nat):LB (aej X n) [0,1,0,1,1,1,1,1,1] NY:=mB2
def EH(X:lE)(n:Nat):Nat->N1:=ui ((EG X n).1)
def avB(X:lE){n:Nat}:EH X n (m+1)=(EG X n).1 (EH X n m):=rfl
@[go_sem]def XY(X:lE)(n:Nat)(m:Nat):=vi (EG X n) (EH X n) m
def FP(X:lE)(n:Nat):SX (rC X n) (lX 0 kJ) jO 136 uN:=mC2
open Go.Proofs
@[go_sem]def vk:ua:=⟨[],[],(zK::zK::zA::zA::zK::l7 (l7 (zA::zA::[]))),[oT jP.kv,oC [zK],oC [zK],oA j7.row],none,none⟩
@[reducible] def vO(X:lE)(n:Nat):kK Tm:=nh gB f330 n (qL gB [] [] [0,1,2,3] 4 kU kJ) (cl:=l6 [(153,Ah [0] (uf (Ax jP.kv) sM) (XA 0 (asT mo IJ)) (uf (Ax jP.kv) sM) (VQ mw F8) (fun(b:Te) a=>(nM n) b.1 a.1))]) (qj:=oz [([0,1],vk)]) (rk:=qM [] [0,1,2,3] 4 kU j1) (cp:=Az [(82,mb (nW n)),(339,L0 X.rB)]) (wx:=l2 [82,339])
@[go_sem]abbrev vl(v0:Int)(o0:jP)(r3:List j7)(c3:Nat):jS:=⟨(.ptr 0 0::.func (.func 339) [] [.ptr 1 0,.ptr 2 0]::qA::qA::.int .i64 v0::mm (mm (qA::qA::[]))),[.cells (jP.cells o0),.cells [.lR 3 c3],.cells [.ptr 0 0],.lR false 2 (mp j7.cells r3)],4,[]⟩
abbrev vm:=Int->jP->(List j7)->Option Tm
abbrev Cu(X:lE)(n:Nat)(K:List Kt)(Z:vm):Prop:=∀v0 o0 r3 c3,c3=r3.length->run (vO X n) K (vl v0 o0 r3 c3)=Z v0 o0 r3
def rn(X:lE)(n:Nat):LB (Cu X n) [0,1] [.qg 0]:=mB2
def rq(X:lE)(n:Nat):Nat->vm:=ui ((rn X n).1)
def aQ4(X:lE){n:Nat}:rq X n (m+1)=(rn X n).1 (rq X n m):=rfl
@[go_sem]def Bw(X:lE)(n:Nat)(m:Nat):=vi (rn X n) (rq X n) m
def rN(X:lE)(n:Nat):SX (vO X n) nU kU 15 n4:=mC2
open Go.Proofs
@[reducible] def rO(X:lE)(n:Nat):kK Ts:=nh gB f339 n (qL gB [] [] [0,1,2,3] 4 mW kJ) (rk:=qM [] [0,1,2,3] 4 mW j1) (co:=aQQ [(335,IK [.arg 0 []] jO (lX 0 kJ) jO (lW (lA j7.row) kJ) jO j1 (uN X.rG))]) (uz:=l2 [335]) (uC:=l2 [])
def acq(X:lE)(n:Nat):so (rO X n) []=true:=jN
def acr(X:lE)(n:Nat):xR (rO X n) [] 1 2 0 3 1 3 2 3/\xR (rO X n) [] 0 4 1 4 2 4 3 4:=⟨⟨jN,jN,jN,jN⟩,jN,jN,jN,jN⟩
def acs(X:lE)(n:Nat):OD (rO X n) [] 2 3=true/\OD (rO X n) [] 2 4=true/\Zt (rO X n) [] 2=false:=⟨jN,jN,jN⟩
attribute [go_sem] acq acr acs
def DB(X:lE)(n:Nat):SX (rO X n) (lX 0 (lX 1 kJ)) mW 6 vN:=mC2
open Go.Proofs
def lY:Nat->lE
 |0=>⟨Fu.z,Fu.z,Fu.z⟩
 |n+1=>⟨(FP (lY n) n).1,(rN (lY n) n).1,(DB (lY n) n).1⟩
def rG:jP->Option TC:=(lY n).rG
def ayS{n:Nat}:rG (n+1)=(FP (lY n) n).1:=rfl
def mc:jP->(List j7)->Option Tm:=(lY n).mc
def acu{n:Nat}:mc (n+1)=(rN (lY n) n).1:=rfl
def rB:(List j7)->jP->Option Ts:=(lY n).rB
def awF{n:Nat}:rB (n+1)=(DB (lY n) n).1:=rfl
def ayl{n:Nat}:(lY n).rG=rG n/\(lY n).mc=mc n/\(lY n).rB=rB n:=⟨rfl,rfl,rfl⟩
def yL:∀n:Nat,tN gB 335 (lX 0 kJ) jO true jO (lW (lA j7.row) kJ) jO j1 (uN (lY n).rG)/\tN gB 330 nU kU true kU kJ kU j1 (n4 (lY n).mc)/\tN gB 339 (lX 0 (lX 1 kJ)) mW true mW kJ mW j1 (vN (lY n).rB)
 |0=>⟨fun _ _ _ h=>(by cases h),fun _ _ _ h=>(by cases h),fun _ _ _ h=>(by cases h)⟩
 |n+1=>by
  obtain⟨aek,Cv,aaB⟩:=yL n
  exact⟨Ei (FP (lY n) n) (gdM (jQ (qp (nu (uM n))) (jQ (pq (fun b a r h=>(mq n) b.1 r h)) (jQ (qp (nu (mO n))) (jQ (pq (fun b a r h=>(nj n) b.1 a.1 r h)) jT)))) jU (p:=(kB (k7 (pP n)) (kB (k7 (DA n)) (kB (k7 (Cv)) (kB (k7 (Gu n)) lZ))))) (c:=(nQ (QZ (abc (zj n))) tP))) func335 ntmps335 results335,
   Ei (rN (lY n) n) (gd (jQ (pq (fun b a r h=>(nj n) b.1 a.1 r h)) jT) jU (p:=(kB (k7 (nE n)) (kB (k7 (aaB)) lZ)))) func330 ntmps330 results330,
   Ei (DB (lY n) n) (gd jT jU (c:=(nQ (Ay (aek)) tP))) func339 ntmps339 results339⟩
def ael:tN gB 335 (lX 0 kJ) jO true jO (lW (lA j7.row) kJ) jO j1 (uN (rG n)):=(yL n).1
def aa0:tN gB 330 nU kU true kU kJ kU j1 (n4 (mc n)):=(yL n).2.1
def avC:tN gB 339 (lX 0 (lX 1 kJ)) mW true mW kJ mW j1 (vN (rB n)):=(yL n).2.2
open Go.Proofs
@[go_sem]def HK:ua:=⟨[],[],(zK::zA::zA::zK::l7 (l7 (l7 (zA::zA::zA::[])))),[oT jP.kv,oA kW],none,none⟩
@[go_sem]def Gv:ua:=⟨[],[],(zK::zA::zA::zL kW::l7 (l7 (l7 (zA::zA::zA::[])))),[oT jP.kv],(some 3),none⟩
@[go_sem]abbrev xo(F:jP->Option TO)(b:T6)(a:Unit):=F b.1.1
@[go_sem]def I0(F:jP->Option TO):=xu true [.arg 0 []] jO (lX 0 kJ) jO (lW (lA kW) kJ) jO j1 (xo F)
@[reducible] def xp:kK TO:=nh gB f352 n (qL gB [.tmp 2] [] [0] 1 jO (lW (lA kW) kJ)) (cl:=l6 [(88,Ah [0] (uf (Ax jP.kv) sM) (XA 0 IJ) (uf (Ax jP.kv) sM) (VQ mo F8) (fun(b:Te) a=>(mZ n) b.1)),(154,DX (pR (nq (uL jP.kv) mw (ya n))))]) (qj:=oz [([0,0,1,1],Gv),([0,0,1,1],HK)]) (rk:=qM [] [0] 1 jO j1) (cp:=Az [(82,mb (nW n)),(149,ou (uq n))]) (wx:=l2 [82,149])
@[go_sem]abbrev HL(o0:jP)(r1:List kj)(c1:Nat):jS:=⟨(.ptr 0 0::qA::qA::.lR 1 c1::mm (mm (mm (qA::qA::qA::[])))),[.cells (jP.cells o0),.lR true 1 (mp kX r1)],1,[]⟩
abbrev HM:=jP->(List kj)->Option TO
abbrev Xc(K:List Kt)(Z:HM):Prop:=∀o0 r1 c1,c1=r1.length->run (xp n) K (HL o0 r1 c1)=Z o0 r1
def A8:LB (Xc n) [0,0,1,1] [.qg 0,.cut [1,1,1],.at [1,1,1]]:=by
 apply Subtype.mk;intro m X0 ih o0 r1 c1 ec1;subst ec1;simp (config:={maxSteps:=100000000}) only[go_sem,gG,gH,gC,gD,gI,gJ,gL,gM,gN,gE,gK,gO,f352,gF,mixed,ih];exact rfl
def A9:Nat->HM:=ui ((A8 n).1)
def arz{n:Nat}:A9 n (m+1)=(A8 n).1 (A9 n m):=rfl
def D8(m:Nat):=vi (A8 n) (A9 n) m
def Gw:{B:Nat->(List kj)->jP->Option TO //∀(m:Nat)(v0:List kj)(o0:jP),run (xp n) [.at [0,0,0,1,1],.lp m [0,0,1,1],.qg 0,.cut [1,1,1],.at [1,1,1]] ⟨[.ptr 0 0,qA,qA,.kF true 1 (mp kX v0),qA,qA,qA,qA,qA,qA,qA,qA,qA,qA,qA,qA,qA,qA,qA],[.cells (jP.cells o0)],1,[]⟩=B m v0 o0}:=by
 apply Subtype.mk;intro m v0 o0;simp (config:={maxSteps:=100000000}) only[go_sem,gG,gH,gC,gD,gI,gJ,gL,gM,gN,gE,gK,gO,f352,gF,mixed,D8 n];exact rfl
def Xd:Nat->(List kj)->jP->Option TO
 |0,_,_=>none
 |m+1,v0,o0=>(Gw n).1 m v0 o0
def RW:∀(m:Nat),(∀(v0:List kj)(o0:jP),run (xp n) [.lq m [0,0,1,1],.qg 0,.cut [1,1,1],.at [1,1,1]] ⟨[.ptr 0 0,qA,qA,.kF true 1 (mp kX v0),qA,qA,qA,qA,qA,qA,qA,qA,qA,qA,qA,qA,qA,qA,qA],[.cells (jP.cells o0)],1,[]⟩=Xd n m v0 o0)
 |0=>by intros;exact Li
 |m+1=>by
  intro v0 o0;rw[D3];exact(Gw n).2 m v0 o0
def I1:SX (xp n) (lX 0 kJ) jO 19 xo:=by
 apply Subtype.mk
 repeat (first|refine Prod.forall.2 ?_|intro)
 simp (config:={maxSteps:=100000000}) only[go_sem,gG,gH,gC,gD,gI,gJ,gL,gM,gN,gE,gK,gO,f352,gF,mixed,D8 n,RW n];exact rfl
def L1:=fu fun n=>(I1 n).1
def Xe:∀n:Nat,tN gB 352 (lX 0 kJ) jO true jO (lW (lA kW) kJ) jO j1 (xo (L1 n)):=adx fun n=>Ei (I1 n) (gd (jQ (pq (fun b a r h=>(mq n) b.1 r h)) (jQ (qp (nu (zO n))) jT)) jU (p:=(kB (k7 (nE n)) (kB (k7 (uy n)) lZ)))) func352 ntmps352 results352
open Go.Proofs
@[reducible] def DC:kK Bool:=nh gB f30 n (l1 gB [.tmp 4] mw) (cl:=l6 [(74,nP (lA jR.row) (tyF 67) (lr .i64) (tG n))])
def rP:Ll (DC n) (lA jR.row) (tyF 67) 9:=mB
def sG:=fu fun n=>(rP n).1
def Cw:∀n:Nat,uu gB 30 (lA jR.row) (tyF 67) mw (sG n):=yu fun n=>we (rP n) (gd (jQ (lw (EE n)) jT) jU) func30 ntmps30 results30
def aiG:ua:=⟨[],[],(zA::zA::zA::zK::zA::zK::l7 (zA::zK::wv (wv (lH (l7 (zA::[])))))),[oT kz.kv,oT j6.kv],none,none⟩
def aiH:ua:=⟨[],[],(zA::zA::zA::zK::zA::zK::zA::zK::wv (wv (lH (l7 (l7 (zA::[])))))),[oT kz.kv,oT j6.kv],none,none⟩
def aiI:ua:=⟨[],[],(zA::zA::zA::zK::zA::zK::l7 (l7 (zA::zK::wv (wv (lH (zA::[])))))),[oT kz.kv,oT j6.kv],none,none⟩
def aiJ:ua:=⟨[],[],(zA::zA::zA::zK::zA::zK::l7 (zA::zA::zA::zK::wv (wv (lH (zA::zA::zA::[]))))),[oT kz.kv,oC [zT (lA kz.row),zK,zK,zK,zK,zK,zK,zK,zT (lA kA.row),zT (lA jW.row),zK,zK,zK,zT (lA kA.row),zT (lA jW.row),zK,zT (lA mI.row),zK,zK,zK,zK,zT (lA kA.row),zT (lA jW.row),zT (lA jW.row),zT (lA qH.row)]],none,none⟩
@[reducible] def Fs:kK Int:=nh gB f258 n (l1 gB [.tmp 4] (lr .i64)) (cl:=l6 [(65,nq (kZ kz.kv) (lA kW) (Ln n)),(289,ao2 (kZ j6.kv) (kZ jW.kv) (lr .i64) (lr .i64) (lr .i64) (IB n))]) (cd:=Bp [(289,pR (ao2 (kZ j6.kv) (kZ jW.kv) (lr .i64) (lr .i64) (lr .i64) (IB n))),(290,pR (ao2 (kZ j6.kv) (kZ ld.kv) (lr .i64) (lr .i64) (lr .i64) (BV n)))]) (qj:=oz [([0,1,1,1,1,1,1,1,0,1,1,1,0,1,0,1,1,1],aiG),([0,1,0,1,0,1,1,1,0,1,0,1,1,1],aiH),([0,1,1,1,0,1,1,1,1,1,0,1,0,1,1,1],aiI),([0,1,0,0,1,1,1,1,1,0,1,0,1,1,1],aiJ)]) (uz:=l2 []) (uC:=l2 [])
def avD:aF9 (Fs n) [0,0,0,1,0,0,1,0,0,1,1,1,1,1,0,1,0,1,1,1] [0,0,0,1,0,0,1,0,1,0,1,1,1,0,1,0,1,1,1] [0,0,0,1,0,0,1,1,1,0,1,1,1,1,1,0,1,0,1,1,1] [0,0,0,1,0,0,1,1,1,1,1,1,1,0,1,1,1,0,1,0,1,1,1]:=⟨jN,jN,jN,jN⟩
attribute [go_sem] avD aiG aiH aiI aiJ
abbrev aiK(v0:Int)(o0:kz)(o1:j6):jS:=⟨(qA::qA::qA::.ptr 0 0::qA::.ptr 1 0::mm (qA::.int .i64 v0::wu (wu (lK (mm (qA::[])))))),[.cells (kz.cells o0),.cells (j6.cells o1)],0,[]⟩
abbrev DD:=Int->kz->j6->Option Int
abbrev atX(K:List Kt)(Z:DD):Prop:=∀v0 o0 o1,run (Fs n) K (aiK v0 o0 o1)=Z v0 o0 o1
abbrev aiL(v0:Int)(o0:kz)(o1:j6):jS:=⟨(qA::qA::qA::.ptr 0 0::qA::.ptr 1 0::qA::.int .i64 v0::wu (wu (lK (mm (mm (qA::[])))))),[.cells (kz.cells o0),.cells (j6.cells o1)],0,[]⟩
abbrev aiM:List Kt:=[.qg 1,.cut [1,1,0,1,1,1,0,1,0,1,1,1],.at [1,1,0,1,1,1,0,1,0,1,1,1],.qg 0,.cut [1,1,1,1],.at [1,1,1,1]]
abbrev atY(K:List Kt)(Z:DD):Prop:=∀v0 o0 o1,run (Fs n) K (aiL v0 o0 o1)=Z v0 o0 o1
abbrev aiN(v0:Int)(o0:kz)(o1:j6):jS:=⟨(qA::qA::qA::.ptr 0 0::qA::.ptr 1 0::mm (mm (qA::.int .i64 v0::wu (wu (lK (qA::[])))))),[.cells (kz.cells o0),.cells (j6.cells o1)],0,[]⟩
abbrev atZ(K:List Kt)(Z:DD):Prop:=∀v0 o0 o1,run (Fs n) K (aiN v0 o0 o1)=Z v0 o0 o1
abbrev aiO(v0:Int)(o0:kz)(v2:List kz)(v3:Int)(v4:kj)(v5 v6 v7:Int)(v8:kj)(v9:List kA)(v10:List jW)(v11 v12:Int)(v13:kj)(v14:List kA)(v15:List jW)(v16:Int)(v17:List mI)(v18 v19 v20:Int)(v21:kj)(v22:List kA)(v23 v24:List jW)(v25:List qH):jS:=⟨(qA::qA::qA::.ptr 0 0::qA::.ptr 1 0::mm (qA::qA::qA::.int .i64 v0::wu (wu (lK (qA::qA::qA::[]))))),[.cells (kz.cells o0),.cells [.kF false 23 (mp kz.cells v2),.kF true 0 [],.int .i64 v3,.str (sb v4),.int .i64 v5,.int .i64 v6,.int .i64 v7,.str (sb v8),.kF false 2 (mp kA.cells v9),.kF false 5 (mp jW.cells v10),.int .i64 v11,.int .i64 v12,.str (sb v13),.kF false 2 (mp kA.cells v14),.kF false 5 (mp jW.cells v15),.int .i64 v16,.kF false 6 (mp mI.cells v17),.int .i64 v18,.int .i64 v19,.int .i64 v20,.str (sb v21),.kF false 2 (mp kA.cells v22),.kF false 5 (mp jW.cells v23),.kF false 5 (mp jW.cells v24),.kF false 15 (mp qH.cells v25)]],0,[]⟩
abbrev aiP:List Kt:=[.qg 5,.cut [1,0,1,1,1,1,1,0,1,0,1,1,1],.at [1,0,1,1,1,1,1,0,1,0,1,1,1],.qg 0,.cut [1,1,1,1],.at [1,1,1,1]]
abbrev aiQ:=Int->kz->(List kz)->Int->kj->Int->Int->Int->kj->(List kA)->(List jW)->Int->Int->kj->(List kA)->(List jW)->Int->(List mI)->Int->Int->Int->kj->(List kA)->(List jW)->(List jW)->(List qH)->Option Int
abbrev at0(K:List Kt)(Z:aiQ):Prop:=∀v0 o0 v2 v3 v4 v5 v6 v7 v8 v9 v10 v11 v12 v13 v14 v15 v16 v17 v18 v19 v20 v21 v22 v23 v24 v25,run (Fs n) K (aiO v0 o0 v2 v3 v4 v5 v6 v7 v8 v9 v10 v11 v12 v13 v14 v15 v16 v17 v18 v19 v20 v21 v22 v23 v24 v25)=Z v0 o0 v2 v3 v4 v5 v6 v7 v8 v9 v10 v11 v12 v13 v14 v15 v16 v17 v18 v19 v20 v21 v22 v23 v24 v25
attribute [go_sem] aiK aiL aiM aiN aiO aiP
def HN:LB (atX n) [0,1,1,1,1,1,1,1,0,1,1,1,0,1,0,1,1,1] [.qg 3,.qg 0,.cut [1,1,1,1],.at [1,1,1,1]]:=mB
def DE:Nat->DD:=ui ((HN n).1)
def acv{n:Nat}:DE n (m+1)=(HN n).1 (DE n m):=rfl
@[go_sem]def aod(m:Nat):=vi (HN n) (DE n) m
def HO:LB (atY n) [0,1,0,1,0,1,1,1,0,1,0,1,1,1] aiM:=mB
def DF:Nat->DD:=ui ((HO n).1)
def acw{n:Nat}:DF n (m+1)=(HO n).1 (DF n m):=rfl
@[go_sem]def aoe(m:Nat):=vi (HO n) (DF n) m
def HP:LB (atZ n) [0,1,1,1,0,1,1,1,1,1,0,1,0,1,1,1] [.qg 7,.qg 0,.cut [1,1,1,1],.at [1,1,1,1]]:=mB
def DG:Nat->DD:=ui ((HP n).1)
def acy{n:Nat}:DG n (m+1)=(HP n).1 (DG n m):=rfl
@[go_sem]def aof(m:Nat):=vi (HP n) (DG n) m
def HQ:LB (at0 n) [0,1,0,0,1,1,1,1,1,0,1,0,1,1,1] aiP:=mB
def DH:Nat->aiQ:=ui ((HQ n).1)
def acz{n:Nat}:DH n (m+1)=(HQ n).1 (DH n m):=rfl
@[go_sem]def aog(m:Nat):=vi (HQ n) (DH n) m
def aaC:Ll (Fs n) (lA kz.row) (kZ kz.kv) 161:=mB
def Za:=fu fun n=>(aaC n).1
def at1:∀n:Nat,uu gB 258 (lA kz.row) (kZ kz.kv) (lr .i64) (Za n):=yu fun n=>we (aaC n) (gd (jQ (lB (V1 n)) (jQ (arP (SQ n)) jT)) (lC (am6 (SQ n)) (lC (am6 (afH n)) jU))) func258 ntmps258 results258
@[reducible] def Ki:kK (kj×Int):=nh gB f106 n (l1 gB [.tmp 6,.tmp 7] (Qr mo (lr .i64))) (cl:=l6 [(108,nP (uL j3.kv) (lr .i64) mo (zk n))]) (cd:=Bp [(79,pR (nP (lA kW) mo mw (oG n))),(168,pR (nP (lA kW) mo mw (qK n)))]) (uz:=l2 []) (uC:=l2 [])
@[go_sem]def aaD:so (Ki n) [0,0,1,1,1]=true:=jN
def q7:SC3 (Ki n) (uL j3.kv) (lr .i64) (lr .i64) 75:=mB2
def qW:=fu fun n=>(q7 n).1
def XZ:∀n:Nat,auZ gB 106 (uL j3.kv) (lr .i64) (lr .i64) (Qr mo (lr .i64)) (qW n):=aIv fun n=>aDK (q7 n) (gd (jQ (lw (Nv n)) jT) (lC (qk (pS n)) (lC (qk (vf n)) jU))) func106 ntmps106 results106
def N2:ua:=⟨[],[],(zT (uL j3.kv)::zA::zA::zA::zK::zA::zK::lH (l7 (l7 (zT (lA kp.row)::zK::zK::wv (zA::[]))))),[oD,oK,oC [zK,zK],oA j7.row],none,none⟩
@[reducible] def tg:kK (jX×Int):=nh gB f110 n (l1 gB [.cell 4 112,.tmp 5] (Qr (kZ jX.kv) (lr .i64))) (cl:=l6 [(172,nP (lA kp.row) (tyF 173) mw (oH n))]) (cd:=Bp [(79,pR (nP (lA kW) mo mw (oG n))),(168,pR (nP (lA kW) mo mw (qK n)))]) (qj:=oz [([0,1,0,1,1,1,1],N2)]) (cut:=as5 [] [([1,1,1],2,1,2,true)]) (uz:=l2 []) (uC:=l2 [])
def age:anm (tg n) [0,0,1,0,0,1,1,0,0,1,0,1,1,1,1] [1,1,0,0,1,1,0,0,1,0,1,1,1,1]:=⟨jN,jN⟩
def agf:xR (tg n) [1,1,0,0,1,1,0,0,1,0,1,1,1,1] 1 14 5 14 7 14 8 14/\xR (tg n) [1,1,0,0,1,1,0,0,1,0,1,1,1,1] 9 14 11 14 1 16 5 16/\xR (tg n) [1,1,0,0,1,1,0,0,1,0,1,1,1,1] 7 16 8 16 9 16 11 16/\Mt (tg n) [1,1,0,0,1,1,0,0,1,0,1,1,1,1] 14 16=true:=⟨⟨jN,jN,jN,jN⟩,⟨jN,jN,jN,jN⟩,⟨jN,jN,jN,jN⟩,jN⟩
attribute [go_sem] age agf N2
@[go_sem]abbrev N3(v0:j3)(v1:List kp)(v2 v3:Int)(r3:List j7)(c3:Nat):jS:=⟨(.pp (j3.cells v0)::qA::qA::qA::.ptr 1 0::qA::.ptr 2 0::lK (mm (mm (.kF false 2 (mp kp.cells v1)::.int .i64 v2::.int .i64 v3::wu (qA::[]))))),[.vZ,.cells [.bool false,.kF true 0 []],.cells [.bool false,.lR 3 c3],.lR true 2 (mp j7.cells r3)],0,[]⟩
abbrev N4:=j3->(List kp)->Int->Int->(List j7)->Option (jX×Int)
abbrev aem(K:List Kt)(Z:N4):Prop:=∀v0 v1 v2 v3 r3 c3,c3=r3.length->run (tg n) K (N3 v0 v1 v2 v3 r3 c3)=Z v0 v1 v2 v3 r3
def qX:LB (aem n) [0,1,0,1,1,1,1] [.qg 0,.cut [1,1,1,1,1],.at [1,1,1,1,1]]:=mB
def wT:Nat->N4:=ui ((qX n).1)
def uZ{n:Nat}:wT n (m+1)=(qX n).1 (wT n m):=rfl
@[go_sem]def X1(m:Nat):=vi (qX n) (wT n) m
def FQ:Ll (tg n) (uL j3.kv) (kZ kA.kv) 99:=mB
def zm:=fu fun n=>(FQ n).1
def aen:∀n:Nat,uu gB 110 (uL j3.kv) (kZ kA.kv) (Qr (kZ jX.kv) (lr .i64)) (zm n):=yu fun n=>we (FQ n) (gdM (jQ (lw (zl n)) jT) (lC (qk (pS n)) (lC (qk (vf n)) jU))) func110 ntmps110 results110
def ow:xI:=(aCx [(1,.ret)] (sub [0,1,0,1,1] ((f169.body).getD .skip)))
@[go_sem]def Ba:ow.ps.size=1/\∀j:Int,pV ow.js j=bif j==0 then none else some .ret:=⟨jN,fun j=>rfl⟩
@[go_sem]def lh:=(tz (asW ow (alZ (alZ (lX 1 (lX 2 (lX 3 (lX 4 (Cq 35 kJ)))))))) (tz (Bq (aQO kH.kv 7 kJ)) (tz (Bq (aQO cS 1 kJ)) (tz (Bq (aQO cS 1 kJ)) (tz (Bq (aQO (cI .i64) 1 kJ)) Bn)))))
@[go_sem]def mK:=(tz (ogL ow (alZ (alZ (lX 1 (lX 2 (lX 3 (lX 4 (Cq 35 kJ)))))))) (tz (Bq (aQO kH.kv 7 kJ)) (tz (Bq (aQO cS 1 kJ)) (tz (Bq (aQO cS 1 kJ)) (tz (Bq (aQO (cI .i64) 1 kJ)) Bn)))))
def mF:kK (TQ×(Bool×Unit)) where
 body:=.seq (Uk (sub [0,1,0,1,1] ((f169.body).getD .skip))) (ajO (sub [0,1,0,1,1] ((f169.body).getD .skip)))
 P:=gB
 cl:=l6 [(220,nP (lA kW) mo mo (yH n)),(221,nP (kZ kH.kv) mo mw (A7 n))]
 cd:=Bp []
 qj:=oz []
 cut:=Mh []
 n:=n
 out:=(fun _=>none)
 l1:=VT [(1,.ret)] [] [0,1,2,3,4] 5 mK
 wx:=l2 []
def SZ:(mF n).P=gB/\(mF n).cl=l6 [(220,nP (lA kW) mo mo (yH n)),(221,nP (kZ kH.kv) mo mw (A7 n))]/\(mF n).cd=Bp []/\(mF n).qj=oz []/\(mF n).cut=Mh []/\(mF n).n=n/\(mF n).out=(fun _=>none)/\(mF n).l1=VT [(1,.ret)] [] [0,1,2,3,4] 5 mK/\(mF n).wx=l2 []:=⟨rfl,rfl,rfl,rfl,rfl,rfl,rfl,rfl,rfl⟩
def S6:(mF n).body=.seq (Uk (sub [0,1,0,1,1] ((f169.body).getD .skip))) (ajO (sub [0,1,0,1,1] ((f169.body).getD .skip))):=rfl
def S7:Code.seq (Uk (sub [0,1,0,1,1] ((f169.body).getD .skip))) (ajO (sub [0,1,0,1,1] ((f169.body).getD .skip)))=Code.seq ow.assign ow.body:=jN
attribute [go_sem] SZ S6 Ba
def yQ:{B:(List kj)->kH->kj->kj->Int->Option (TQ×(Bool×Unit)) //∀(a0:(List kj))(o0:kH)(o1:kj)(o2:kj)(o3:Int),run (mF n) [.at [0],.rb,.at [1],.rd] {j9:=Uh ((alZ (alZ (lX 1 (lX 2 (lX 3 (lX 4 (Cq 35 kJ))))))).enc (lh.mg ((),(o0,()),(o1,()),(o2,()),(o3,()),())) ()) [14] ((lW (lA kW) kJ).enc (lh.mg ((),(o0,()),(o1,()),(o2,()),(o3,()),())) (a0,())),heap:=(lh.enc (lh.mg ((),(o0,()),(o1,()),(o2,()),(o3,()),())) ((),(o0,()),(o1,()),(o2,()),(o3,()),())),low:=(lh.enc (lh.mg ((),(o0,()),(o1,()),(o2,()),(o3,()),())) ((),(o0,()),(o1,()),(o2,()),(o3,()),())).length}=B a0 o0 o1 o2 o3}:=mB
def wU:=fu fun n=>(yQ n).1
def RX:∀(n:Nat)(a0:(List kj))(o0:kH)(o1:kj)(o2:kj)(o3:Int)(r:(TQ×(Bool×Unit))),wU n a0 o0 o1 o2 o3=some r->FnT gB (VG gB) ((lW (lA kW) kJ).enc (lh.mg ((),(o0,()),(o1,()),(o2,()),(o3,()),())) (a0,())) (lh.enc (lh.mg ((),(o0,()),(o1,()),(o2,()),(o3,()),())) ((),(o0,()),(o1,()),(o2,()),(o3,()),())) (fun o H'=>o=.ret (sZ ((lW mw kJ).enc (mK.mg r.1) r.2))/\H'=mK.enc (mK.mg r.1) r.1)
 |0,_,_,_,_,_,_,h=>by cases h
 |n+1,a0,o0,o1,o2,o3,r,h=>by
  exact am2 (M:=mF n) (lk:=ow) (j9:=((alZ (alZ (lX 1 (lX 2 (lX 3 (lX 4 (Cq 35 kJ))))))).enc (lh.mg ((),(o0,()),(o1,()),(o2,()),(o3,()),())) ())) ⟨(jQ (lw (Rn n)) (jQ (lw (NR n)) jT)),jU,pd _,pI _,rK,rL,sA,rX⟩ S7 (jN) ⟨jN,jN⟩ rfl (sy (Nat.le_trans (jI (jN)) (Nat.le_of_eq (lh.sz _ _).symm)) _ ((lW (lA kW) kJ).nb _ _)) (fun x hx=>Ai (Nat.le_trans (jI (jN)) (Nat.le_of_eq (lh.sz _ _).symm)) _ (lh.nb _ _ x hx)) (fun e J hs=>ag0 (js:=[(1,.ret)]) (pos:=[]) (base:=[0,1,2,3,4]) (low:=5) (os:=mK) (e:=e) (J:=J) (r:=r) (by rfl) hs) (((yQ n).2 a0 o0 o1 o2 o3).trans h)
@[go_sem]def afI:ua:=⟨[(5,1,true)],[],(zA::zK::zK::zA::zA::zK::l7 (zT (lA kW)::zK::zK::lH (l7 (zA::zA::[])))),[oT kH.kv,oA kW],none,none⟩
@[reducible] def aiR:kK (List kj):=nh gB f222 n (l1 gB [.tmp 4] (lA kW)) (cl:=l6 [(79,nP (lA kW) mo mw (oG n)),(220,nP (lA kW) mo mo (yH n)),(221,nP (kZ kH.kv) mo mw (A7 n))]) (qj:=oz [([0,1,0,1,1],afI)])
@[go_sem]abbrev afJ(v0:kj)(v1:List kj)(v2 v3:Int)(o0:kH)(r1:List kj)(c1:Nat):jS:=⟨(qA::.str (sb v0)::.ptr 0 0::qA::qA::.lR 1 c1::mm (.kF false 1 (mp kX v1)::.int .i64 v2::.int .i64 v3::lK (mm (qA::qA::[])))),[.cells (kH.cells o0),.lR true 1 (mp kX r1)],0,[]⟩
abbrev afK:=kj->(List kj)->Int->Int->kH->(List kj)->Option (List kj)
abbrev arA(K:List Kt)(Z:afK):Prop:=∀v0 v1 v2 v3 o0 r1 c1,c1=r1.length->run (aiR n) K (afJ v0 v1 v2 v3 o0 r1 c1)=Z v0 v1 v2 v3 o0 r1
def E9:LB (arA n) [0,1,0,1,1] [.qg 0,.cut [1,1,1],.at [1,1,1]]:=mB
def Fa:Nat->afK:=ui ((E9 n).1)
def Zb{n:Nat}:Fa n (m+1)=(E9 n).1 (Fa n m):=rfl
@[go_sem]def amm(m:Nat):=vi (E9 n) (Fa n) m
def Xf:Ll (aiR n) (kZ kH.kv) mo 35:=mB
def Vs:=fu fun n=>(Xf n).1
def arB:∀n:Nat,uu gB 222 (kZ kH.kv) mo (lA kW) (Vs n):=yu fun n=>we (Xf n) (gd (jQ (lw (pS n)) (jQ (lw (Rn n)) (jQ (lw (NR n)) jT))) jU) func222 ntmps222 results222
open Go.Proofs
def Pl:ua:=⟨[],[],(zK::wv (l7 (l7 (l7 (zA::zA::zA::zT (lA kW)::zK::zK::lH (zA::zA::[])))))),[oC [zK,zK,zK,zK],oM (kZ jR.kv),oM (kZ jR.kv),oK],none,none⟩
def Pm:ua:=⟨[],[],(zK::zA::zA::zK::zA::zA::zK::zK::zT (lA kW)::lH (lH (l7 (l7 (l7 (zA::zA::zA::zT (lA kW)::zK::zK::lH (lH (l7 (l7 (zA::zA::[])))))))))),[oC [zK,zK,zK,zK],oM (kZ jR.kv),oM (kZ jR.kv),oK,oT jR.kv],none,(some (6,2))⟩
def Pn:ua:=⟨[],[],(zK::zA::zA::zK::zA::zA::zK::zK::zT (lA kW)::lH (lH (l7 (l7 (l7 (zA::zA::zA::zT (lA kW)::zK::zK::lH (lH (l7 (l7 (zA::zA::[])))))))))),[oC [zK,zK,zK,zK],oM (kZ jR.kv),oM (kZ jR.kv),oK,oT jR.kv],none,(some (6,1))⟩
@[go_sem]abbrev BW(F:jR->Int->Tb->Tb->Ta->Option T12)(b:T7)(a:(jR×Unit)):=F a.1 b.1.1 b.2.1 b.2.2.1 b.2.2.2.1
@[go_sem]def HR(F:jR->Int->Tb->Tb->Ta->Option T12):=GR [.arg 0 [],.vA 0 0 [],.vA 0 1 [],.vA 0 2 []] lM (lX 0 (lW (kZ jR.kv) kJ)) lM (lW (lr .i64) kJ) (BW F)
@[reducible] def BX:kK T12:=nh gB f36 n (w9 gB [.tmp 4] [] [0,1,2,3] 4 lM (lW (lr .i64) kJ)) (cl:=l6 [(76,nq (kZ jR.kv) (lr .i64) (aiF n)),(78,nq (kZ jR.kv) mw (Fp n)),(79,nP (lA kW) mo mw (oG n))]) (qj:=oz [([0,1,0,1,1,1,1,1,1,1,1],Pl),([0,1,0,1,1,1,1,1,1],Pm),([0,1,0,1,1,1,1,1,1],Pn)]) (cp:=Az [(77,Nf (Ro n))]) (wx:=l2 [77])
attribute [go_sem] Pl Pm Pn
abbrev Po(v0:List kj)(v1 v2 v3:Int)(r1 r2:List (kj×jR))(r3:List (kj×Bool)):jS:=⟨(.ptr 0 0::wu (mm (mm (mm (qA::qA::qA::.kF false 1 (mp kX v0)::.int .i64 v1::.int .i64 v2::lK (qA::qA::[])))))),[.cells [.map 1,.map 2,.map 3,.int .i64 v3],.map (mp (PX (kZ jR.kv)) r1),.map (mp (PX (kZ jR.kv)) r2),.map (mp GI r3)],4,[]⟩
abbrev Pp:List Kt:=[.qg 2,.cut [1,1,1,1,1,1,1,1,1],.at [1,1,1,1,1,1,1,1,1]]
abbrev Pq:=(List kj)->Int->Int->Int->Tb->Tb->Ta->Option T12
abbrev agh(K:List Kt)(Z:Pq):Prop:=∀v0 v1 v2 v3 r1 r2 r3,run (BX n) K (Po v0 v1 v2 v3 r1 r2 r3)=Z v0 v1 v2 v3 r1 r2 r3
abbrev Pr(v0:kj)(v1 v2:List kj)(v3 v4 v5:Int)(r1 r2:List (kj×jR))(r3:List (kj×Bool))(o4:jR):jS:=⟨(.ptr 0 0::qA::qA::.ptr 4 0::qA::qA::.map 2::.str (sb v0)::.kF false 1 (mp kX v1)::lK (lK (mm (mm (mm (qA::qA::qA::.kF false 1 (mp kX v2)::.int .i64 v3::.int .i64 v4::lK (lK (mm (mm (qA::qA::[])))))))))),[.cells [.map 1,.map 2,.map 3,.int .i64 v5],.map (mp (PX (kZ jR.kv)) r1),.map (mp (PX (kZ jR.kv)) r2),.map (mp GI r3),.cells (jR.cells o4)],4,[]⟩
abbrev Bh:List Kt:=[.qg 0,.cut [1,1,1,1,1,1,1],.at [1,1,1,1,1,1,1]]
abbrev Bi:=kj->(List kj)->(List kj)->Int->Int->Int->Tb->Tb->Ta->jR->Option T12
abbrev agi(K:List Kt)(Z:Bi):Prop:=∀v0 v1 v2 v3 v4 v5 r1 r2 r3 o4,run (BX n) K (Pr v0 v1 v2 v3 v4 v5 r1 r2 r3 o4)=Z v0 v1 v2 v3 v4 v5 r1 r2 r3 o4
abbrev Ps(v0:kj)(v1 v2:List kj)(v3 v4 v5:Int)(r1 r2:List (kj×jR))(r3:List (kj×Bool))(o4:jR):jS:=⟨(.ptr 0 0::qA::qA::.ptr 4 0::qA::qA::.map 1::.str (sb v0)::.kF false 1 (mp kX v1)::lK (lK (mm (mm (mm (qA::qA::qA::.kF false 1 (mp kX v2)::.int .i64 v3::.int .i64 v4::lK (lK (mm (mm (qA::qA::[])))))))))),[.cells [.map 1,.map 2,.map 3,.int .i64 v5],.map (mp (PX (kZ jR.kv)) r1),.map (mp (PX (kZ jR.kv)) r2),.map (mp GI r3),.cells (jR.cells o4)],4,[]⟩
abbrev agj(K:List Kt)(Z:Bi):Prop:=∀v0 v1 v2 v3 v4 v5 r1 r2 r3 o4,run (BX n) K (Ps v0 v1 v2 v3 v4 v5 r1 r2 r3 o4)=Z v0 v1 v2 v3 v4 v5 r1 r2 r3 o4
attribute [go_sem] Po Pp Pr Bh Ps
def FR:LB (agh n) [0,1,0,1,1,1,1,1,1,1,1] Pp:=mB2
def FS:Nat->Pq:=ui ((FR n).1)
def awG{n:Nat}:FS n (m+1)=(FR n).1 (FS n m):=rfl
@[go_sem]def aaE(m:Nat):=vi (FR n) (FS n) m
def FT:LB (agi n) [0,1,0,1,1,1,1,1,1] Bh:=mB2
def FU:Nat->Bi:=ui ((FT n).1)
def awH{n:Nat}:FU n (m+1)=(FT n).1 (FU n m):=rfl
@[go_sem]def aaF(m:Nat):=vi (FT n) (FU n) m
def FV:LB (agj n) [0,1,0,1,1,1,1,1,1] Bh:=mB2
def FW:Nat->Bi:=ui ((FV n).1)
def awI{n:Nat}:FW n (m+1)=(FV n).1 (FW n m):=rfl
@[go_sem]def aaG(m:Nat):=vi (FV n) (FW n) m
def RY:SX (BX n) (lX 0 (lW (kZ jR.kv) kJ)) lM 101 BW:=mC2
def KZ:=fu fun n=>(RY n).1
def Pt:∀n:Nat,zt gB 36 (lX 0 (lW (kZ jR.kv) kJ)) lM lM (lW (lr .i64) kJ) (BW (KZ n)):=VX fun n=>GC (RY n) (gd (jQ (lB (aob n)) (jQ (lB (C7 n)) (jQ (lw (pS n)) jT))) jU (p:=(kB (k7 (abO n)) lZ))) func36 ntmps36 results36
@[go_sem]def CL:=(lW mo (lW (lr .i64) (lW (lr .i64) (lW (lA kW) kJ))))
@[go_sem]abbrev EI(F:kj->Int->Int->(List kj)->Option TT)(b:Unit)(a:(kj×(Int×(Int×Tf)))):=F a.1 a.2.1 a.2.2.1 a.2.2.2.1
@[go_sem]def Xg(F:kj->Int->Int->(List kj)->Option TT):=xu true [] Bn CL Bn (lW (kZ ko.kv) kJ) Bn j1 (EI F)
@[reducible] def amn:kK TT:=nh gB f81 n (qL gB [.cell 8 157] [] [] 0 Bn (lW (kZ ko.kv) kJ)) (cl:=l6 [(147,nP mo (lA kW) (ty3 (lA lz.row) (lr .i64) (lr .i64)) (atW n))]) (rk:=qM [] [] 0 Bn j1)
def Xh:SX (amn n) CL Bn 33 EI:=mC2
def acA:=fu fun n=>(Xh n).1
def akc:∀n:Nat,tN gB 81 CL Bn true Bn (lW (kZ ko.kv) kJ) Bn j1 (EI (acA n)):=adx fun n=>Ei (Xh n) (gd (jQ (lw (avA n)) jT) jU) func81 ntmps81 results81
@[go_sem]abbrev th(F:jP->Option TM)(b:T6)(a:Unit):=F b.1.1
@[go_sem]def FX(F:jP->Option TM):=xu true [.arg 0 []] jO (lX 0 kJ) jO (lW (kZ jX.kv) kJ) jO j1 (th F)
@[reducible] def agk:kK TM:=nh gB f332 n (qL gB [.cell 2 112] [] [0] 1 jO (lW (kZ jX.kv) kJ)) (cl:=l6 [(153,Ah [0] (uf (Ax jP.kv) sM) (XA 0 (asT mo IJ)) (uf (Ax jP.kv) sM) (VQ mw F8) (fun(b:Te) a=>(nM n) b.1 a.1))]) (rk:=qM [] [0] 1 jO j1) (cp:=Az [(335,Pk (rG n))]) (wx:=l2 [335])
def Pu:SX (agk n) (lX 0 kJ) jO 11 th:=mC2
def Jk:=fu fun n=>(Pu n).1
def N5:∀n:Nat,tN gB 332 (lX 0 kJ) jO true jO (lW (kZ jX.kv) kJ) jO j1 (th (Jk n)):=adx fun n=>Ei (Pu n) (gd (jQ (pq (fun b a r h=>(nj n) b.1 a.1 r h)) jT) jU (p:=(kB (k7 (ael n)) lZ))) func332 ntmps332 results332
@[go_sem]def Fb:ua:=⟨[],[],(zT (lA kW)::l7 (zK::l7 (zT (lA jX.row)::zK::zK::l7 (l7 (zA::zA::zA::zT (lA j7.row)::zK::zK::lH (l7 (l7 []))))))),[],none,none⟩
@[go_sem]def Fc:ua:=⟨[],[],(zT (lA kW)::l7 (zK::l7 (zT (lA jX.row)::zK::zK::lH (lH (l7 (zA::zA::[])))))),[],none,none⟩
@[reducible] def zV:kK Int:=nh gB f125 n (l1 gB [.tmp 4] (lr .i64)) (cl:=l6 [(168,nP (lA kW) mo mw (qK n))]) (qj:=oz [([0,1,1,1,0,0,1,1,0,0,1,0,1,1],Fb),([0,1,0,1,1],Fc)])
abbrev Fe(v0:List kj)(v1:Int)(v2:List jX)(v3 v4:Int)(v5:List j7)(v6 v7:Int):jS:=⟨(.kF false 1 (mp kX v0)::mm (.int .i64 v1::mm (.kF false 2 (mp jX.cells v2)::.int .i64 v3::.int .i64 v4::mm (mm (qA::qA::qA::.kF false 2 (mp j7.cells v5)::.int .i64 v6::.int .i64 v7::lK (mm (mm []))))))),[],0,[]⟩
abbrev Ff(m2:Nat):List Kt:=[.qg 2,.qg 1,.cut [1,1,1,0,0,1,0,1,1],.at [1,1,1,0,0,1,0,1,1],.lp m2 [0,1,0,1,1],.qg 0,.cut [1,1,1],.at [1,1,1]]
abbrev Fg:=(List kj)->Int->Tk->Int->Int->(List j7)->Int->Int->Option Int
abbrev S8(K:List Kt)(Z:Fg):Prop:=∀v0 v1 v2 v3 v4 v5 v6 v7,run (zV n) K (Fe v0 v1 v2 v3 v4 v5 v6 v7)=Z v0 v1 v2 v3 v4 v5 v6 v7
abbrev Fh(v0:List kj)(v1:Int)(v2:List jX)(v3 v4:Int):jS:=⟨(.kF false 1 (mp kX v0)::mm (.int .i64 v1::mm (.kF false 2 (mp jX.cells v2)::.int .i64 v3::.int .i64 v4::lK (lK (mm (qA::qA::[])))))),[],0,[]⟩
abbrev vg:=(List kj)->Int->Tk->Int->Int->Option Int
abbrev yR(K:List Kt)(Z:vg):Prop:=∀v0 v1 v2 v3 v4,run (zV n) K (Fh v0 v1 v2 v3 v4)=Z v0 v1 v2 v3 v4
attribute [go_sem] Fe Ff Fh
def yS:LB2 (yR n) [0,1,0,1,1] [.qg 0,.cut [1,1,1],.at [1,1,1]] (S8 n) [0,1,1,1,0,0,1,1,0,0,1,0,1,1] Ff:=mB
def yT(X2:vg):Nat->Fg:=ui ((yS n).1 X2)
def apG{n:Nat}(X2:vg):yT n X2 (m+1)=(yS n).1 X2 (yT n X2 m):=rfl
def OF{m2:Nat}{X2}(h2:yR n (.lq m2 [0,1,0,1,1]::[.qg 0,.cut [1,1,1],.at [1,1,1]]) X2)(m:Nat):=aDI (yS n) h2 (yT n X2) m
def yU:LB (yR n) [0,1,0,1,1] [.qg 0,.cut [1,1,1],.at [1,1,1]]:=by
 apply Subtype.mk;intro m X0 ih v0 v1 v2 v3 v4;simp (config:={maxSteps:=100000000}) only[go_sem,gG,gH,gC,gD,gI,gJ,gL,gM,gN,gE,gK,gO,f125,gF,mixed,OF n ih,ih];exact rfl
def yV:Nat->vg:=ui ((yU n).1)
def apH{n:Nat}:yV n (m+1)=(yU n).1 (yV n m):=rfl
@[go_sem]def OH(m:Nat):=vi (yU n) (yV n) m
def Gx:Ll (zV n) (lA kW) (lA jX.row) 51:=mB
def I2:=fu fun n=>(Gx n).1
def S9:∀n:Nat,uu gB 125 (lA kW) (lA jX.row) (lr .i64) (I2 n):=yu fun n=>we (Gx n) (gd (jQ (lw (vf n)) jT) jU) func125 ntmps125 results125
@[reducible] def RZ:kK Bool:=nh gB f128 n (l1 gB [.tmp 4] mw) (cl:=l6 [(168,nP (lA kW) mo mw (qK n))])
def D9:Ll (RZ n) (lA kW) mo 12:=mB
def Gy:=fu fun n=>(D9 n).1
def Ql:∀n:Nat,uu gB 128 (lA kW) mo mw (Gy n):=yu fun n=>we (D9 n) (gd (jQ (lw (vf n)) jT) jU) func128 ntmps128 results128
open Go.Proofs
@[reducible] def avE:kK Bool:=nh gB f25 n (l1 gB [.tmp 2] mw) (cl:=l6 [(30,nP (lA jR.row) (tyF 67) mw (sG n))])
def aaH:Jx (avE n) (lA jR.row) 11:=mB
def Zc:=fu fun n=>(aaH n).1
def at2:∀n:Nat,uj gB 25 (lA jR.row) mw (Zc n):=ww fun n=>uU (aaH n) (gd (jQ (lw (Cw n)) jT) jU) func25 ntmps25 results25
@[reducible] def aym:kK Int:=nh gB f215 n (l1 gB [.tmp 4] (lr .i64)) (cl:=l6 [(255,nq (kZ kz.kv) mw (Vq n)),(256,nq (kZ kz.kv) (lr .i64) (Vm n)),(257,nP (lA kz.row) (kZ kz.kv) (lr .i64) (KG n)),(258,nP (lA kz.row) (kZ kz.kv) (lr .i64) (Za n))])
def aeo:Ll (aym n) (lA kz.row) (kZ kz.kv) 32:=mB
def aep:=fu fun n=>(aeo n).1
def avF:∀n:Nat,uu gB 215 (lA kz.row) (kZ kz.kv) (lr .i64) (aep n):=yu fun n=>we (aeo n) (gd (jQ (lB (art n)) (jQ (lB (are n)) (jQ (lw (amb n)) (jQ (lw (at1 n)) jT)))) jU) func215 ntmps215 results215
@[go_sem]def R0:ua:=⟨[],[],(zK::zT (uL kH.kv)::zA::zK::l7 (l7 (l7 (zA::zA::[])))),[oL [zA,zA,zK,zK,zK,zK,zA,zA,zA,zA,zA,zA,zA,zA,zA,zA,zA,zA,zA,zA,zA,zA,zA,zA,zA,zA,zA,zA,zA,zA,zA,zA,zA,zA,zA,zA,zA,zA,zA,zA,zA],oT kH.kv,oC [zK],oC [zK],oC [zK]],none,none⟩
@[go_sem]abbrev CM(F:kH->kH->kj->kj->Int->Option (TQ×Unit))(b:(Unit×Tn))(a:(kH×Unit)):=F a.1 b.2.1.1 b.2.2.1.1 b.2.2.2.1.1 b.2.2.2.2.1.1
@[go_sem]def UM(F:kH->kH->kj->kj->Int->Option (TQ×Unit)):=GR [.arg 0 [],.vA 0 2 [],.vA 0 3 [],.vA 0 4 [],.vA 0 5 []] lh (aQP 0 (lW (uL kH.kv) kJ)) mK kJ (CM F)
@[reducible] def UN:kK (TQ×Unit):=nh gB f259 n (w9 gB [] [] [0,1,2,3,4] 5 mK kJ) (qj:=oz [([0,1],R0)]) (cy:=asV [(0,aAD [.vA 0 2 [],.vA 0 3 [],.vA 0 4 [],.vA 0 5 []] lh (lW (lA kW) kJ) mK (lW mw kJ) (fun(b:(Unit×Tn))(a:Tf)=>(wU n) a.1 b.2.1.1 b.2.2.1.1 b.2.2.2.1.1 b.2.2.2.2.1.1))])
@[go_sem]abbrev R1(v0:kH)(v1 j0:Int)(o1:kH)(v4 v5:kj)(v6:Int):jS:=⟨(.map 0::.pp (kH.cells v0)::qA::.int .i64 v1::mm (mm (mm (qA::qA::[])))),[.loop ow [qA,qA,.ptr 1 0,.ptr 2 0,.ptr 3 0,.ptr 4 0,qA,qA,qA,qA,qA,qA,qA,qA,qA,qA,qA,qA,qA,qA,qA,qA,qA,qA,qA,qA,qA,qA,qA,qA,qA,qA,qA,qA,qA,qA,qA,qA,qA,qA,qA] (stJ ow j0) j0,.cells (kH.cells o1),.cells [.str (sb v4)],.cells [.str (sb v5)],.cells [.int .i64 v6]],5,[]⟩
abbrev R2:=kH->Int->Int->kH->kj->kj->Int->Option (TQ×Unit)
abbrev aiS(K:List Kt)(Z:R2):Prop:=∀v0 v1 j0 o1 v4 v5 v6,run (UN n) K (R1 v0 v1 j0 o1 v4 v5 v6)=Z v0 v1 j0 o1 v4 v5 v6
def yo:LB (aiS n) [0,1] [.qg 0]:=mB
def BY:Nat->R2:=ui ((yo n).1)
def N6{n:Nat}:BY n (m+1)=(yo n).1 (BY n m):=rfl
@[go_sem]def acB(m:Nat):=vi (yo n) (BY n) m
def Jl:SX (UN n) (aQP 0 (lW (uL kH.kv) kJ)) lh 18 CM:=mC
def Gz:=fu fun n=>(Jl n).1
def aiT:∀n:Nat,zt gB 259 (aQP 0 (lW (uL kH.kv) kJ)) lh mK kJ (CM (Gz n)):=VX fun n=>GC (Jl n) (gd jT jU (y:=(Mu (fun _ _ _ _ _ h=>anc (fun b a r h=>(RX n) a.1 b.2.1.1 b.2.2.1.1 b.2.2.2.1.1 b.2.2.2.2.1.1 r h) h) QX))) func259 ntmps259 results259
@[go_sem]def UO:ua:=⟨[],[],(l7 (zK::zA::zA::zA::zT (lA jR.row)::zK::zK::l7 (l7 (zA::[])))),[oC [zK,zK,zK,zK],oM (kZ jR.kv),oM (kZ jR.kv),oK],none,none⟩
@[go_sem]def CN:=(alK (.sV (.pointer none)) aLC (alK (.bool false) aEQ kJ))
@[go_sem]abbrev EJ(F:(List jR)->Option TW)(b:Unit)(a:TH):=F a.1
@[go_sem]def EK(F:(List jR)->Option TW):=xu false [] Bn (lW (lA jR.row) kJ) Bn CN lM (lX 0 (alK (.bool true) aEQ kJ)) (EJ F)
@[reducible] def Xi:kK TW:=nh gB f35 n (anh gB [.tmp 2,.tmp 3] [] [] 0 Bn CN [.arg 0 [],.vA 0 0 [],.vA 0 1 [],.vA 0 2 []] lM (lX 0 (alK (.bool true) aEQ kJ))) (cl:=l6 [(36,HR (KZ n)),(75,Us (Yt n))]) (qj:=oz [([0,1,0,1,1],UO)])
@[go_sem]abbrev UP(v0:List jR)(v1 v2 v3:Int)(r1 r2:List (kj×jR))(r3:List (kj×Bool)):jS:=⟨(mm (.ptr 0 0::qA::qA::qA::.kF false 4 (mp jR.cells v0)::.int .i64 v1::.int .i64 v2::mm (mm (qA::[])))),[.cells [.map 1,.map 2,.map 3,.int .i64 v3],.map (mp (PX (kZ jR.kv)) r1),.map (mp (PX (kZ jR.kv)) r2),.map (mp GI r3)],0,[]⟩
abbrev UQ:=(List jR)->Int->Int->Int->Tb->Tb->Ta->Option TW
abbrev akd(K:List Kt)(Z:UQ):Prop:=∀v0 v1 v2 v3 r1 r2 r3,run (Xi n) K (UP v0 v1 v2 v3 r1 r2 r3)=Z v0 v1 v2 v3 r1 r2 r3
def Jm:LB (akd n) [0,1,0,1,1] [.qg 0,.cut [1,1,1],.at [1,1,1]]:=mB
def Jn:Nat->UQ:=ui ((Jm n).1)
def ayT{n:Nat}:Jn n (m+1)=(Jm n).1 (Jn n m):=rfl
@[go_sem]def aeq(m:Nat):=vi (Jm n) (Jn n) m
def Xj:SX (Xi n) (lW (lA jR.row) kJ) Bn 20 EJ:=mC
def IC:=fu fun n=>(Xj n).1
def Jo:∀n:Nat,tN gB 35 (lW (lA jR.row) kJ) Bn false Bn CN lM (lX 0 (alK (.bool true) aEQ kJ)) (EJ (IC n)):=adx fun n=>aOS (Xj n) (gd (jQ (mV (Pt n)) (jQ (mV (ahF n)) jT)) jU) func35 ntmps35 results35
@[go_sem]def CP:=(lW mo (lW (lr .i64) (lW (lr .i64) (lW (lA jR.row) kJ))))
@[go_sem]abbrev EL(F:kj->Int->Int->(List jR)->Option T19)(b:Unit)(a:(kj×(Int×(Int×TH)))):=F a.1 a.2.1 a.2.2.1 a.2.2.2.1
@[go_sem]def Xk(F:kj->Int->Int->(List jR)->Option T19):=xu true [] Bn CP jO (lX 0 kJ) Bn j1 (EL F)
@[reducible] def amo:kK T19:=nh gB f43 n (qL gB [.tmp 8] [.arg 0 []] [] 0 jO (lX 0 kJ)) (cl:=l6 [(55,nq (lA jR.row) (lA kW) (Ak n))]) (rk:=qM [] [] 0 Bn j1) (cp:=Az [(81,Xg (acA n))]) (wx:=l2 [81])
def Xl:SX (amo n) CP Bn 21 EL:=mC2
def acC:=fu fun n=>(Xl n).1
def ake:∀n:Nat,tN gB 43 CP Bn true jO (lX 0 kJ) Bn j1 (EL (acC n)):=adx fun n=>Ei (Xl n) (gd (jQ (lB (Jc n)) jT) jU (p:=(kB (k7 (akc n)) lZ))) func43 ntmps43 results43
@[go_sem]def nZ:=(tz (Bq (alA 2 kJ)) (tz (Bq (lX 3 kJ)) (tz (ogA true jX.row) (tz (Bq (aQO jP.kv 6 kJ)) Bn))))
@[go_sem]abbrev yb(F:Tk->jP->Option TI)(b:(Unit×(Unit×(Tk×T6))))(a:Unit):=F b.2.2.1 b.2.2.2.1.1
@[go_sem]def Kj(F:Tk->jP->Option TI):=xu true [.arg 0 [],.arg 1 [],.vA 0 0 [],.vA 1 0 []] nZ (lX 0 (lX 1 kJ)) nZ kJ nZ j1 (yb F)
@[reducible] def qf:kK TI:=nh gB f331 n (qL gB [] [] [0,1,2,3] 4 nZ kJ) (rk:=qM [] [0,1,2,3] 4 nZ j1) (co:=aQQ [(332,IK [.arg 0 []] jO (lX 0 kJ) jO (lW (kZ jX.kv) kJ) jO j1 (th (Jk n)))]) (uz:=l2 [332]) (uC:=l2 [])
def aaI:so (qf n) []=true:=jN
def aaJ:xR (qf n) [] 1 2 0 4 1 4 2 4/\xR (qf n) [] 0 5 1 5 2 5 4 5:=⟨⟨jN,jN,jN,jN⟩,jN,jN,jN,jN⟩
def aaK:OD (qf n) [] 2 3=true/\OD (qf n) [] 2 4=true/\OD (qf n) [] 2 5=true/\Zt (qf n) [] 2=false:=⟨jN,jN,jN,jN⟩
attribute [go_sem] aaI aaJ aaK
def Kk:SX (qf n) (lX 0 (lX 1 kJ)) nZ 7 yb:=mC2
def N7:=fu fun n=>(Kk n).1
def X4:∀n:Nat,tN gB 331 (lX 0 (lX 1 kJ)) nZ true nZ kJ nZ j1 (yb (N7 n)):=adx fun n=>Ei (Kk n) (gd jT jU (c:=(nQ (Ay (N5 n)) tP))) func331 ntmps331 results331
open Go.Proofs
structure mQ where
 nN:(List kj)->Syntax->Option Int
 mi:(List Syntax)->(List kj)->Option Int
open Go.Proofs
@[reducible] def OI(X:mQ)(n:Nat):kK Int:=nh gB f70 n (l1 gB [.tmp 4] (lr .i64)) (cl:=l6 [(124,nq (kZ Syntax.kv) mw (aih n)),(125,nP (lA kW) (lA jX.row) (lr .i64) (I2 n)),(126,nP (lA kW) mo mw (qO n)),(127,nq (lr .i64) mw (Qx n)),(128,nP (lA kW) mo mw (Gy n)),(129,VR (nP (lA Syntax.row) (as6 70 (lA kW)) (lr .i64) X.mi) (nP (lA Syntax.row) (as6 130 (lA kW)) (lr .i64) (yD n)))])
def xl(X:mQ)(n:Nat):Ll (OI X n) (lA kW) (kZ Syntax.kv) 62:=mB
open Go.Proofs
@[go_sem]def vP:ua:=⟨[],[],(zA::zT (as6 70 (lA kW))::l7 (zA::zA::zT (lA Syntax.row)::zK::zK::l7 (l7 (zA::zA::[])))),[],none,none⟩
@[reducible] def wk(X:mQ)(n:Nat):kK Int:=nh gB f129 n (l1 gB [.tmp 4] (lr .i64)) (cl:=l6 [(70,nP (lA kW) (kZ Syntax.kv) (lr .i64) X.nN)]) (qj:=oz [([0,1,0,1],vP)])
@[go_sem]abbrev vQ(v0:List kj)(v1:List Syntax)(v2 v3:Int):jS:=⟨(qA::.func (.func 70) [.kF false 1 (mp kX v0)] []::mm (qA::qA::.kF false 8 (mp Syntax.cells v1)::.int .i64 v2::.int .i64 v3::mm (mm (qA::qA::[])))),[],0,[]⟩
abbrev DI(X:mQ)(n:Nat)(K:List Kt)(Z:qq):Prop:=∀v0 v1 v2 v3,run (wk X n) K (vQ v0 v1 v2 v3)=Z v0 v1 v2 v3
def rQ(X:mQ)(n:Nat):LB (DI X n) [0,1,0,1] [.qg 0,.cut [1,1],.at [1,1]]:=mB
def rR(X:mQ)(n:Nat):Nat->qq:=ui ((rQ X n).1)
def aaL(X:mQ){n:Nat}:rR X n (m+1)=(rQ X n).1 (rR X n m):=rfl
@[go_sem]def BZ(X:mQ)(n:Nat)(m:Nat):=vi (rQ X n) (rR X n) m
def r9(X:mQ)(n:Nat):Ll (wk X n) (lA Syntax.row) (as6 70 (lA kW)) 21:=mB
open Go.Proofs
def lS:Nat->mQ
 |0=>⟨Fu.z,Fu.z⟩
 |n+1=>⟨(xl (lS n) n).1,(r9 (lS n) n).1⟩
def nN:(List kj)->Syntax->Option Int:=(lS n).nN
def aoD{n:Nat}:nN (n+1)=(xl (lS n) n).1:=rfl
def mi:(List Syntax)->(List kj)->Option Int:=(lS n).mi
def ac3{n:Nat}:mi (n+1)=(r9 (lS n) n).1:=rfl
def aoh{n:Nat}:(lS n).nN=nN n/\(lS n).mi=mi n:=⟨rfl,rfl⟩
def wg:∀n:Nat,uu gB 70 (lA kW) (kZ Syntax.kv) (lr .i64) (lS n).nN/\uu gB 129 (lA Syntax.row) (as6 70 (lA kW)) (lr .i64) (lS n).mi
 |0=>⟨fun _ _ _ h=>(by cases h),fun _ _ _ h=>(by cases h)⟩
 |n+1=>by
  obtain⟨N8,DJ⟩:=wg n
  exact⟨we (xl (lS n) n) (gd (jQ (lB (anU n)) (jQ (lw (S9 n)) (jQ (lw (xk n)) (jQ (lB (P2 n)) (jQ (lw (Ql n)) (jQ (abh (lw (DJ)) (lw (FC n))) jT)))))) jU) func70 ntmps70 results70,
   we (r9 (lS n) n) (gd (jQ (lw (N8)) jT) jU) func129 ntmps129 results129⟩
def N9:uu gB 70 (lA kW) (kZ Syntax.kv) (lr .i64) (nN n):=(wg n).1
def acD:uu gB 129 (lA Syntax.row) (as6 70 (lA kW)) (lr .i64) (mi n):=(wg n).2
open Go.Proofs
@[reducible] def akf:kK TM:=nh gB f328 n (qL gB [.cell 2 112] [] [0] 1 jO (lW (kZ jX.kv) kJ)) (cl:=l6 [(88,Ah [0] (uf (Ax jP.kv) sM) (XA 0 IJ) (uf (Ax jP.kv) sM) (VQ mo F8) (fun(b:Te) a=>(mZ n) b.1)),(94,DX (pR (nq (uL jP.kv) (kZ lz.kv) (nr n)))),(153,Ah [0] (uf (Ax jP.kv) sM) (XA 0 (asT mo IJ)) (uf (Ax jP.kv) sM) (VQ mw F8) (fun(b:Te) a=>(nM n) b.1 a.1)),(207,DX (pR (nq (uL jP.kv) mw (BO n))))]) (rk:=qM [] [0] 1 jO j1) (cp:=Az [(151,pE (qm n)),(327,zQ (BU n)),(332,FX (Jk n))]) (wx:=l2 [151,327,332])
def UR:SX (akf n) (lX 0 kJ) jO 47 th:=mC2
def Zd:=fu fun n=>(UR n).1
def aiU:∀n:Nat,tN gB 328 (lX 0 kJ) jO true jO (lW (kZ jX.kv) kJ) jO j1 (th (Zd n)):=adx fun n=>Ei (UR n) (gd (jQ (pq (fun b a r h=>(mq n) b.1 r h)) (jQ (qp (nu (mO n))) (jQ (pq (fun b a r h=>(nj n) b.1 a.1 r h)) (jQ (qp (nu (Df n))) jT)))) jU (p:=(kB (k7 (pP n)) (kB (k7 (DA n)) (kB (k7 (N5 n)) lZ))))) func328 ntmps328 results328
end Go.Abs
end
