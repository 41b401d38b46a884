/- A part of the proof: what the functions compute. -/
import Derived.Test.YtdkeelhebopgkaaGreatDoorDataA
import Derived.Test.YtdkeelhebopgkaaGreatDoorWalkA
import Derived.Test.YtdkeelhebopgkaaGreatDoorWalkB
import Derived.Test.YtdkeelhebopgkaaGreatDoorCoreD
set_option linter.all false
open Go.Proofs.Tryz renaming prog→fO
open Nat renaming reduceLeDiff→fP,reduceEqDiff→fQ,reduceAdd→fS,reduceSub→fT,reduceBEq→fU,reduceMul→fV,reduceLT→fX
open Int renaming reduceToNat→fR,reduceBEq→fW,reduceLE→fY,reduceLT→fZ,reduceEq→ga
open Option renaming getD_some→gb
open Subtype renaming mk→gf
open Go.Abs.AV renaming any→qA
noncomputable section
open Go.Proofs.Tryz
namespace Go.Abs
variable {m:Nat}{J:jX}
variable (n:Nat)
open Go.Proofs
attribute [go_sem] f69 f118 f242 f21 f247 f248 f30 f71 f274 f219 f36 f12 f33 f273 f268 f197 f173 f37 f82 f127 f128 f129 f132 f172 f202 f225 f249 f263 f250 f177 f164 f267 f15
set_option maxRecDepth 100000
set_option maxHeartbeats 4000000
@[go_sem]def aib:wH:=⟨[],[],(zT (mZ jV.row)::zA::zA::zK::zA::zA::zK::mG (mG (nf (nf (zA::zA::zA::[]))))),[oT jV.ku],none,none⟩
@[reducible] def acP:kR Int:=nX fO f69 n (nT fO [.tmp 4] (lR .i64)) (cl:=ni [(114,mD (lJ jV.ku) (lR .i64) (Uk n)),(115,rL (lJ jV.ku) (lJ jV.ku) nk (CN n))]) (cd:=N5 [(115,nG (rL (lJ jV.ku) (lJ jV.ku) nk (CN n))),(116,nG (mD (lJ jV.ku) nk (zD n))),(117,nG (mD (lJ jV.ku) mb (I0 n)))]) (rK:=qF [([0,1,0,1,1,1,1],aib)]) (uO:=mc []) (uR:=mc [])
@[go_sem]def auc:sP (acP n) [0,0,0,1,0,0,1,0,1,1,1,1]=true:=jR
@[go_sem]abbrev aic(v0:List jV)(v1:Int)(o0:jV):jX:=⟨(.lS false 4 (mp jV.cells v0)::qA::qA::.ptr 0 0::qA::qA::.int .i64 v1::mM (mM (nv (nv (qA::qA::qA::[]))))),[.cells (jV.cells o0)],0,[]⟩
abbrev aid:=(List jV)->Int->jV->Option Int
abbrev arc(K:List Kt)(Z:aid):Prop:=∀v0 v1 o0,run (acP n) K (aic v0 v1 o0)=Z v0 v1 o0
def Lt:LB (arc n) [0,1,0,1,1,1,1] [.qU 0,.cut [1,1,1,1,1],.at [1,1,1,1,1]]:=mB
def GH:Nat->aid:=xb ((Lt n).1)
def acQ{n:Nat}:GH n (m+1)=(Lt n).1 (GH n m):=rfl
@[go_sem]def ak5(m:Nat):=yL (Lt n) (GH n) m
def acR:SC2 (acP n) (mZ jV.row) (lJ jV.ku) 50:=mB
def adV:=fu fun n=>(acR n).1
def ard:∀n:Nat,Gx fO 69 (mZ jV.row) (lJ jV.ku) (lR .i64) (adV n):=IT fun n=>IS (acR n) (gd (jW (lU (am8 n)) (jW (pg (Uf n)) j9)) (oJ (pm (Uf n)) (oJ (lu (Bi n)) (oJ (lu (aLS n)) ke)))) func69 ntmps69 results69
def afA:wH:=⟨[(15,3,true)],[],(zK::nf (zA::zA::zK::nf (zA::zA::zK::zK::vD (mG (mG (mG [])))))),[oK,oK,oK,oC [zK,zK,zK,zK,zK],oC [zK,zK,zK,zK],oA kH.row],none,none⟩
def afB:wH:=⟨[],[],(zK::nf (zA::zA::zK::mG (mG (zA::zA::zT (mZ atF)::zK::zK::zA::zA::zA::zT (mZ mq)::zK::zK::vD (nf (nf (nf (zA::[])))))))),[oK,oK,oK,oC [zK,zK,zK,zK,zK]],none,none⟩
def afC:wH:=⟨[],[],(zK::nf (zA::zA::zK::mG (mG (zA::zA::zT (mZ atF)::zK::zK::vD (mG (zA::zA::zA::[])))))),[oK,oK,oK,oC [zK,zK,zK,zK,zK]],none,none⟩
def afD:wH:=⟨[],[],(zK::zT (mZ mq)::nf (zA::zK::mG (zA::zT (mZ mq)::zK::zK::vD (mG (mG (nf [])))))),[oK,oK,oK,oC [zK,zK,zK,zK,zK]],none,none⟩
@[reducible] def DM:kR TG:=nX fO f118 n (nT fO [.tmp 4,.tmp 5,.tmp 6] (ty3 (mZ kH.row) (lR .i64) (lR .i64))) (cl:=ni [(148,Nk (FZ n)),(149,mD mb nk (Lj n)),(150,ata (mZ mq) (Oj n)),(151,vL (AI n)),(152,vL (DA n)),(153,vL (AR n)),(154,vL (AU n)),(155,OD (xg n)),(156,mD (lR .u8) (lR .i64) (C9 n))]) (rK:=qF [([0,1,0,1,1,1,1,1,1,1],afA),([0,1,1,0,0,1,1,0,0,1,0,1,1,1],afB),([0,1,0,1,1,1],afC),([0,1,0,1,1],afD)]) (uO:=mc []) (uR:=mc [])
def are:sP (DM n) [0,1,1,0,0,1,0,0,1,0,1,1,1,1,1,1,1]=true:=jR
def arf:akF (DM n) [0,1,1,0,0,1,0,0,1,0,1,1,1,1,1,1,1] 6 15 8 15 12 15:=⟨jR,jR,jR⟩
attribute [go_sem] are arf afA afB afC afD
abbrev afE(v0:Str)(r0 r1 r2:List (Str×Bool))(v4:Str)(v5:Int)(r5:List kH)(c5:Nat):jX:=⟨(.str (sb v0)::nv (qA::qA::.ptr 3 0::nv (qA::qA::.ptr 4 0::.mE 5 c5::vC (mM (mM (mM [])))))),[.map (mp Gr r0),.map (mp Gr r1),.map (mp Gr r2),.cells [.str (sb v4),.int .i64 v5,.map 0,.map 1,.map 2],.cells [.func (.func 151) [.ptr 3 0] [],.func (.func 152) [.ptr 3 0] [],.func (.func 153) [.ptr 3 0] [],.func (.func 154) [.ptr 3 0] []],.mE true 3 (mp kH.cells r5)],0,[]⟩
abbrev afF:List Kt:=[.qU 6,.cut [1,1,1,1,1,1,1,1],.at [1,1,1,1,1,1,1,1]]
abbrev afG:=Str->Ta->Ta->Ta->Str->Int->(List kH)->Option TG
abbrev aox(K:List Kt)(Z:afG):Prop:=∀v0 r0 r1 r2 v4 v5 r5 c5,c5=r5.length->run (DM n) K (afE v0 r0 r1 r2 v4 v5 r5 c5)=Z v0 r0 r1 r2 v4 v5 r5
abbrev afH(v0:Str)(v1:List (List Str))(v2 v3:Int)(v4:List Str)(v5 v6:Int)(r0 r1 r2:List (Str×Bool))(v10:Str):jX:=⟨(.str (sb v0)::nv (qA::qA::.ptr 3 0::mM (mM (qA::qA::.lS false 1 (mp abB v1)::.int .i64 v2::.int .i64 v3::qA::qA::qA::.lS false 1 (mp nh v4)::.int .i64 v5::.int .i64 v6::vC (nv (nv (nv (qA::[])))))))),[.map (mp Gr r0),.map (mp Gr r1),.map (mp Gr r2),.cells [.str (sb v10),.int .i64 0,.map 0,.map 1,.map 2]],0,[]⟩
abbrev afI(m3:Nat):List Kt:=[.qU 4,.qU 3,.cut [1,1,1,0,0,1,0,1,1,1],.at [1,1,1,0,0,1,0,1,1,1],.lp m3 [0,1,0,1,1,1],.qU 2,.cut [1,1,1,1],.at [1,1,1,1]]
abbrev afJ:=Str->(List (List Str))->Int->Int->(List Str)->Int->Int->Ta->Ta->Ta->Str->Option TG
abbrev aoy(K:List Kt)(Z:afJ):Prop:=∀v0 v1 v2 v3 v4 v5 v6 r0 r1 r2 v10,run (DM n) K (afH v0 v1 v2 v3 v4 v5 v6 r0 r1 r2 v10)=Z v0 v1 v2 v3 v4 v5 v6 r0 r1 r2 v10
abbrev afK(v0:Str)(v1:List (List Str))(v2 v3:Int)(r0 r1 r2:List (Str×Bool))(v7:Str):jX:=⟨(.str (sb v0)::nv (qA::qA::.ptr 3 0::mM (mM (qA::qA::.lS false 1 (mp abB v1)::.int .i64 v2::.int .i64 v3::vC (mM (qA::qA::qA::[])))))),[.map (mp Gr r0),.map (mp Gr r1),.map (mp Gr r2),.cells [.str (sb v7),.int .i64 0,.map 0,.map 1,.map 2]],0,[]⟩
abbrev NN:=Str->(List (List Str))->Int->Int->Ta->Ta->Ta->Str->Option TG
abbrev Vv(K:List Kt)(Z:NN):Prop:=∀v0 v1 v2 v3 r0 r1 r2 v7,run (DM n) K (afK v0 v1 v2 v3 r0 r1 r2 v7)=Z v0 v1 v2 v3 r0 r1 r2 v7
abbrev afL(v0:Str)(v1 v2:List Str)(v3 v4:Int)(r0 r1 r2:List (Str×Bool))(v8:Str):jX:=⟨(.str (sb v0)::.lS false 1 (mp nh v1)::nv (qA::.ptr 3 0::mM (qA::.lS false 1 (mp nh v2)::.int .i64 v3::.int .i64 v4::vC (mM (mM (nv [])))))),[.map (mp Gr r0),.map (mp Gr r1),.map (mp Gr r2),.cells [.str (sb v8),.int .i64 0,.map 0,.map 1,.map 2]],0,[]⟩
abbrev afM:=Str->(List Str)->(List Str)->Int->Int->Ta->Ta->Ta->Str->Option TG
abbrev aoz(K:List Kt)(Z:afM):Prop:=∀v0 v1 v2 v3 v4 r0 r1 r2 v8,run (DM n) K (afL v0 v1 v2 v3 v4 r0 r1 r2 v8)=Z v0 v1 v2 v3 v4 r0 r1 r2 v8
attribute [go_sem] afE afF afH afI afK afL
def NO:LB (aox n) [0,1,0,1,1,1,1,1,1,1] afF:=mB
def Bv:Nat->afG:=xb ((NO n).1)
def ak6{n:Nat}:Bv n (m+1)=(NO n).1 (Bv n m):=rfl
@[go_sem]def aMh(m:Nat):=yL (NO n) (Bv n) m
def Ic:LB2 (Vv n) [0,1,0,1,1,1] [.qU 2,.cut [1,1,1,1],.at [1,1,1,1]] (aoy n) [0,1,1,0,0,1,1,0,0,1,0,1,1,1] afI:=mB
def zl(X3:NN):Nat->afJ:=xb ((Ic n).1 X3)
def aac{n:Nat}(X3:NN):zl n X3 (m+1)=(Ic n).1 X3 (zl n X3 m):=rfl
def ajv{m3:Nat}{X3}(h3:Vv n (.lq m3 [0,1,0,1,1,1]::[.qU 2,.cut [1,1,1,1],.at [1,1,1,1]]) X3)(m:Nat):=aqT (Ic n) h3 (zl n X3) m
def Et:LB (Vv n) [0,1,0,1,1,1] [.qU 2,.cut [1,1,1,1],.at [1,1,1,1]]:=by
 apply gf;intro m X0 ih v0 v1 v2 v3 r0 r1 r2 v7;simp (config:={maxSteps:=100000000}) only[go_sem,fS,fT,fP,fQ,fU,fV,fX,fY,fZ,fR,fW,ga,f118,gb,mixed,aMh n,ajv n ih,ih];exact rfl
def vG:Nat->NN:=xb ((Et n).1)
def Ph{n:Nat}:vG n (m+1)=(Et n).1 (vG n m):=rfl
@[go_sem]def ajw(m:Nat):=yL (Et n) (vG n) m
def Ie:LB (aoz n) [0,1,0,1,1] [.qU 0,.cut [1,1,1],.at [1,1,1]]:=mB
def If:Nat->afM:=xb ((Ie n).1)
def aad{n:Nat}:If n (m+1)=(Ie n).1 (If n m):=rfl
@[go_sem]def ajx(m:Nat):=yL (Ie n) (If n) m
def YU:SC2 (DM n) mb (mZ mq) 128:=mB
def Rp:=fu fun n=>(YU n).1
def aoA:∀n:Nat,Gx fO 118 mb (mZ mq) (ty3 (mZ kH.row) (lR .i64) (lR .i64)) (Rp n):=IT fun n=>IS (YU n) (gd (jW (tY (Ug n)) (jW (lU (aab n)) (jW (ahu (ab4 n)) (jW (tY (Wh n)) (jW (tY (aas n)) (jW (tY (WT n)) (jW (tY (aL9 n)) (jW (tY (aaw n)) (jW (lU (Fy n)) j9))))))))) ke) func118 ntmps118 results118
@[go_sem]def Gc:wH:=⟨[],[],(zK::zA::zA::zK::nf (nf (nf (zA::zA::zA::[])))),[oT jU.ku,oA mq],none,none⟩
@[go_sem]def Fa:wH:=⟨[],[],(zK::zA::zA::zL mq::nf (nf (nf (zA::zA::zA::[])))),[oT jU.ku],(some 3),none⟩
@[go_sem]abbrev wL(F:jU->Option TM)(b:T6)(a:Unit):=F b.1.1
@[go_sem]def G2(F:jU->Option TM):=wI true [.arg 0 []] jS (my 0 k7) jS (mH (mZ mq) k7) jS j8 (wL F)
@[reducible] def wM:kR TM:=nX fO f294 n (qI fO [.tmp 2] [] [0] 1 jS (mH (mZ mq) k7)) (cl:=ni [(59,nu [0] (lm (lA jU.ku) li) (pS 0 pG) (lm (lA jU.ku) li) (sr mb pd) (fun(b:Td) a=>(lr n) b.1)),(123,qP (nG (mD (rI jU.ku) nk (sA n))))]) (rK:=qF [([0,0,1,1],Fa),([0,0,1,1],Gc)]) (pT:=qJ [] [0] 1 jS j8) (cp:=Aj [(72,lV (lN n)),(119,nY (pV n))]) (wF:=mc [72,119])
@[go_sem]abbrev Gd(o0:jU)(r1:List Str)(c1:Nat):jX:=⟨(.ptr 0 0::qA::qA::.mE 1 c1::nv (nv (nv (qA::qA::qA::[])))),[.cells (jU.cells o0),.mE true 1 (mp nh r1)],1,[]⟩
abbrev Ge:=jU->(List Str)->Option TM
abbrev Rq(K:List Kt)(Z:Ge):Prop:=∀o0 r1 c1,c1=r1.length->run (wM n) K (Gd o0 r1 c1)=Z o0 r1
def tw:LB (Rq n) [0,0,1,1] [.qU 0,.cut [1,1,1],.at [1,1,1]]:=by
 apply gf;intro m X0 ih o0 r1 c1 ec1;subst ec1;simp (config:={maxSteps:=100000000}) only[go_sem,fS,fT,fP,fQ,fU,fV,fX,fY,fZ,fR,fW,ga,f294,gb,mixed,ih];exact rfl
def vY:Nat->Ge:=xb ((tw n).1)
def Eo{n:Nat}:vY n (m+1)=(tw n).1 (vY n m):=rfl
def Db(m:Nat):=yL (tw n) (vY n) m
def za:{B:Nat->(List Str)->jU->Option TM //∀(m:Nat)(v0:List Str)(o0:jU),run (wM n) [.at [0,0,0,1,1],.lp m [0,0,1,1],.qU 0,.cut [1,1,1],.at [1,1,1]] ⟨[.ptr 0 0,qA,qA,.lS true 1 (mp nh v0),qA,qA,qA,qA,qA,qA,qA,qA,qA,qA,qA,qA,qA,qA,qA],[.cells (jU.cells o0)],1,[]⟩=B m v0 o0}:=by
 apply gf;intro m v0 o0;simp (config:={maxSteps:=100000000}) only[go_sem,fS,fT,fP,fQ,fU,fV,fX,fY,fZ,fR,fW,ga,f294,gb,mixed,Db n];exact rfl
def zP:Nat->(List Str)->jU->Option TM
 |0,_,_=>none
 |m+1,v0,o0=>(za n).1 m v0 o0
def OH:∀(m:Nat),(∀(v0:List Str)(o0:jU),run (wM n) [.lq m [0,0,1,1],.qU 0,.cut [1,1,1],.at [1,1,1]] ⟨[.ptr 0 0,qA,qA,.lS true 1 (mp nh v0),qA,qA,qA,qA,qA,qA,qA,qA,qA,qA,qA,qA,qA,qA,qA],[.cells (jU.cells o0)],1,[]⟩=zP n m v0 o0)
 |0=>by intros;exact Jm
 |m+1=>by
  intro v0 o0;rw[C7];exact(za n).2 m v0 o0
def Ay:SX (wM n) (my 0 k7) jS 19 wL:=by
 apply gf
 repeat (first|refine Prod.forall.2 ?_|intro)
 simp (config:={maxSteps:=100000000}) only[go_sem,fS,fT,fP,fQ,fU,fV,fX,fY,fZ,fR,fW,ga,f294,gb,mixed,Db n,OH n];exact rfl
def ya:=fu fun n=>(Ay n).1
def Rr:∀n:Nat,sV fO 294 (my 0 k7) jS true jS (mH (mZ mq) k7) jS j8 (wL (ya n)):=Wa fun n=>Dk (Ay n) (gd (jW (kK (fun b a r h=>(l5 n) b.1 r h)) (jW (lD (lu (yW n))) j9)) ke (p:=(kz (kS (mV n)) (kz (kS (tV n)) lT)))) func294 ntmps294 results294
@[go_sem]def Uo:wH:=⟨[],[],(zA::zK::mG (mG (nf (nf (zA::zA::zA::zT (mZ mq)::zK::zK::mG (mG (nf (nf (zA::zA::[]))))))))),[oT jV.ku],none,none⟩
@[go_sem]def Up:wH:=⟨[],[],(zA::zK::zA::zK::nf (nf (nf (zA::zA::zA::zT (mZ mq)::zK::zK::vD (nf []))))),[oT jV.ku],none,none⟩
@[reducible] def Nn:kR Int:=nX fO f242 n (nT fO [.tmp 2] (lR .i64)) (cl:=ni [(149,mD mb nk (Lj n)),(244,mD (lJ jV.ku) nk (Bm n)),(245,mD (lJ jV.ku) nk (Cr n)),(260,mD mb nk (adT n))]) (rK:=qF [([0,1,0,1,1,1,1,1],Uo),([0,1,0,1,1,1],Up)])
@[go_sem]abbrev Uq(v0:List Str)(v1 v2:Int)(o0:jV):jX:=⟨(qA::.ptr 0 0::mM (mM (nv (nv (qA::qA::qA::.lS false 1 (mp nh v0)::.int .i64 v1::.int .i64 v2::mM (mM (nv (nv (qA::qA::[]))))))))),[.cells (jV.cells o0)],0,[]⟩
abbrev Ur:=(List Str)->Int->Int->jV->Option Int
abbrev aie(K:List Kt)(Z:Ur):Prop:=∀v0 v1 v2 o0,run (Nn n) K (Uq v0 v1 v2 o0)=Z v0 v1 v2 o0
@[go_sem]abbrev Us(v0:Int)(v1:List Str)(v2 v3:Int)(o0:jV):jX:=⟨(qA::.ptr 0 0::qA::.int .i64 v0::nv (nv (nv (qA::qA::qA::.lS false 1 (mp nh v1)::.int .i64 v2::.int .i64 v3::vC (nv []))))),[.cells (jV.cells o0)],0,[]⟩
abbrev Ut:=Int->(List Str)->Int->Int->jV->Option Int
abbrev aif(K:List Kt)(Z:Ut):Prop:=∀v0 v1 v2 v3 o0,run (Nn n) K (Us v0 v1 v2 v3 o0)=Z v0 v1 v2 v3 o0
def A2:LB (aie n) [0,1,0,1,1,1,1,1] [.qU 2,.cut [1,1,1,1,1,1],.at [1,1,1,1,1,1]]:=mB
def yb:Nat->Ur:=xb ((A2 n).1)
def PO{n:Nat}:yb n (m+1)=(A2 n).1 (yb n m):=rfl
@[go_sem]def acS(m:Nat):=yL (A2 n) (yb n) m
def A3:LB (aif n) [0,1,0,1,1,1] [.qU 0,.cut [1,1,1,1],.at [1,1,1,1]]:=mB
def A4:Nat->Ut:=xb ((A3 n).1)
def PP{n:Nat}:A4 n (m+1)=(A3 n).1 (A4 n m):=rfl
@[go_sem]def acT(m:Nat):=yL (A3 n) (A4 n) m
def No:R2 (Nn n) (lJ jV.ku) 90:=mB
def Lu:=fu fun n=>(No n).1
def aig:∀n:Nat,zm fO 242 (lJ jV.ku) (lR .i64) (Lu n):=AH fun n=>Ap (No n) (gd (jW (lU (aab n)) (jW (lU (GB n)) (jW (lU (KQ n)) (jW (lU (aq7 n)) j9)))) ke) func242 ntmps242 results242
@[go_sem]def afN:wH:=⟨[(8,3,true)],[],(zK::zT (mZ mq)::nf (zA::zA::zK::zK::mG (mG (mG (nf (nf [])))))),[oA kH.row],none,none⟩
@[go_sem]def afO:wH:=⟨[],[],(zK::zT (mZ mq)::nf (zA::zK::mG (mG (mG (nf (nf (zA::zA::[]))))))),[],none,none⟩
@[reducible] def YV:kR TG:=nX fO f21 n (nT fO [.tmp 4,.tmp 5,.tmp 6] (ty3 (mZ kH.row) (lR .i64) (lR .i64))) (cl:=ni [(45,mD mb nk (Lb n)),(46,rL mb (lR .i64) (lR .i64) (Ym n)),(47,X1 mb (lR .i64) (mZ mq) (ty3 (lR .i64) (lR .i64) (lR .i64)) (adU n))]) (rK:=qF [([0,1,0,1,1,1,1],afN),([0,1,0,1],afO)])
@[go_sem]abbrev afP(v0:Str)(v1:List Str)(v2:Int)(r0:List kH)(c0:Nat):jX:=⟨(.str (sb v0)::.lS false 1 (mp nh v1)::nv (qA::qA::.mE 0 c0::.int .i64 v2::mM (mM (mM (nv (nv [])))))),[.mE true 3 (mp kH.cells r0)],0,[]⟩
abbrev afQ:=Str->(List Str)->Int->(List kH)->Option TG
abbrev aoB(K:List Kt)(Z:afQ):Prop:=∀v0 v1 v2 r0 c0,c0=r0.length->run (YV n) K (afP v0 v1 v2 r0 c0)=Z v0 v1 v2 r0
@[go_sem]abbrev afR(v0:Str)(v1:List Str)(v2:Int):jX:=⟨(.str (sb v0)::.lS false 1 (mp nh v1)::nv (qA::.int .i64 v2::mM (mM (mM (nv (nv (qA::qA::[]))))))),[],0,[]⟩
abbrev afS:=Str->(List Str)->Int->Option TG
abbrev aoC(K:List Kt)(Z:afS):Prop:=∀v0 v1 v2,run (YV n) K (afR v0 v1 v2)=Z v0 v1 v2
def NP:LB (aoB n) [0,1,0,1,1,1,1] [.qU 2,.cut [1,1,1,1,1],.at [1,1,1,1,1]]:=mB
def Ig:Nat->afQ:=xb ((NP n).1)
def ak7{n:Nat}:Ig n (m+1)=(NP n).1 (Ig n m):=rfl
@[go_sem]def ajy(m:Nat):=yL (NP n) (Ig n) m
def Ih:LB (aoC n) [0,1,0,1] [.qU 0,.cut [1,1],.at [1,1]]:=mB
def Ii:Nat->afS:=xb ((Ih n).1)
def aae{n:Nat}:Ii n (m+1)=(Ih n).1 (Ii n m):=rfl
@[go_sem]def ajz(m:Nat):=yL (Ih n) (Ii n) m
def YW:SC2 (YV n) mb (mZ mq) 66:=mB
def YX:=fu fun n=>(YW n).1
def aoD:∀n:Nat,Gx fO 21 mb (mZ mq) (ty3 (mZ kH.row) (lR .i64) (lR .i64)) (YX n):=IT fun n=>IS (YW n) (gd (jW (lU (Z2 n)) (jW (pg (aoj n)) (jW (adN (arb n)) j9))) ke) func21 ntmps21 results21
@[go_sem]def Lv:wH:=⟨[(3,2,true)],[],(zK::zA::zA::zK::mG (nf (nf (zA::zA::zA::[])))),[oT jT.ku,oA j7.row],none,none⟩
@[reducible] def EM:kR T15:=nX fO f247 n (Fi fO [.tmp 2] (lm (lA jT.ku) li) (sr (mZ j7.row) pd) 1) (cl:=ni [(63,nu [0] (lm (lA jT.ku) li) (pS 0 pG) (lm (lA jT.ku) li) pd (fun(b:T8) a=>(kW n) b.1)),(107,nu [0] (lm (lA jT.ku) li) (pS 0 (Ao mb pG)) (lm (lA jT.ku) li) pd (fun(b:T8) a=>(lP n) b.1 a.1)),(108,qP (nG (rL (rI jT.ku) mb nk (lM n)))),(109,nu [0] (lm (lA jT.ku) li) (pS 0 (Ao (lR .i64) pG)) (lm (lA jT.ku) li) pd (fun(b:T8) a=>(lX n) b.1 a.1)),(262,Gb (lO n))]) (rK:=qF [([0,0,1,1,1,1],Lv)])
@[go_sem]abbrev Lw(o0:jT)(r1:List j7)(c1:Nat):jX:=⟨(.ptr 0 0::qA::qA::.mE 1 c1::mM (nv (nv (qA::qA::qA::[])))),[.cells (jT.cells o0),.mE true 2 (mp j7.cells r1)],1,[]⟩
abbrev Lx:=jT->Tk->Option T15
abbrev YY(K:List Kt)(Z:Lx):Prop:=∀o0 r1 c1,c1=r1.length->run (EM n) K (Lw o0 r1 c1)=Z o0 r1
def vZ:LB (YY n) [0,0,1,1,1,1] [.qU 0,.cut [1,1,1,1,1],.at [1,1,1,1,1]]:=mB
def we:Nat->Lx:=xb ((vZ n).1)
def Ij{n:Nat}:we n (m+1)=(vZ n).1 (we n m):=rfl
@[go_sem]def Sp(m:Nat):=yL (vZ n) (we n) m
def EN:{B:jT->Option T15 //∀(a0:jT),run (EM n) [.at []] (UJ ((pS 0 pG).enc (a0,()) ()) 31 ((lm (lA jT.ku) li).enc (a0,())))=B a0}:=mB
def BV:=fu fun n=>(EN n).1
def YZ:∀(n:Nat)(a0:jT)(r:T15),BV n a0=some r->Kk fO 247 ((pS 0 pG).enc (a0,()) ()) ((lm (lA jT.ku) li).enc (a0,())) (fun o H'=>o=.ret (n6 ((sr (mZ j7.row) pd).enc r.1 r.2))/\H'=(lm (lA jT.ku) li).enc r.1)
 |0,_,_,h=>by cases h
 |n+1,a0,r,h=>by
  exact pq (M:=EM n) ⟨(jW (kK (fun b a r h=>(l4 n) b.1 r h)) (jW (kK (fun b a r h=>(p5 n) b.1 a.1 r h)) (jW (lD (pm (nj n))) (jW (kK (fun b a r h=>(oz n) b.1 a.1 r h)) (jW (tY (EL n)) j9))))),ke,mU _,nn _,oR,oS,pM,qe⟩ func247 rfl rfl (by simp only[go_sem,fS,fT,fP,fQ,fU,fV,fX,fY,fZ,fR,fW,ga]) ((lm (lA jT.ku) li).nb _ _) ntmps247 results247 (fun J hs=>rS hs) (((EN n).2 a0).trans h)
open Go.Proofs
@[reducible] def Rt:kR T14:=nX fO f248 n (Fi fO [.cell 2 80] (lm (lA jT.ku) li) (sr (lJ j7.ku) pd) 1) (cl:=ni [(38,qP (nG (mD (rI jT.ku) (lJ kH.ku) (mi n)))),(63,nu [0] (lm (lA jT.ku) li) (pS 0 pG) (lm (lA jT.ku) li) pd (fun(b:T8) a=>(kW n) b.1)),(107,nu [0] (lm (lA jT.ku) li) (pS 0 (Ao mb pG)) (lm (lA jT.ku) li) pd (fun(b:T8) a=>(lP n) b.1 a.1)),(108,qP (nG (rL (rI jT.ku) mb nk (lM n)))),(111,nu [0] (lm (lA jT.ku) li) (pS 0 pG) (lm (lA jT.ku) li) (sr (lR .i64) pd) (fun(b:T8) a=>(qv n) b.1)),(143,nu [0] (lm (lA jT.ku) li) (pS 0 pG) (lm (lA jT.ku) li) (sr mb pd) (fun(b:T8) a=>(rA n) b.1)),(174,mD mb nk (Dq n)),(262,Gb (lO n))])
def I7:{B:jT->Option T14 //∀(a0:jT),run (Rt n) [.at []] (UJ ((pS 0 pG).enc (a0,()) ()) 46 ((lm (lA jT.ku) li).enc (a0,())))=B a0}:=mB
def GI:=fu fun n=>(I7 n).1
def aeB:∀(n:Nat)(a0:jT)(r:T14),GI n a0=some r->Kk fO 248 ((pS 0 pG).enc (a0,()) ()) ((lm (lA jT.ku) li).enc (a0,())) (fun o H'=>o=.ret (n6 ((sr (lJ j7.ku) pd).enc r.1 r.2))/\H'=(lm (lA jT.ku) li).enc r.1)
 |0,_,_,h=>by cases h
 |n+1,a0,r,h=>by
  exact pq (M:=Rt n) ⟨(jW (lD (lu (mA n))) (jW (kK (fun b a r h=>(l4 n) b.1 r h)) (jW (kK (fun b a r h=>(p5 n) b.1 a.1 r h)) (jW (lD (pm (nj n))) (jW (kK (fun b a r h=>(DJ n) b.1 r h)) (jW (kK (fun b a r h=>(zM n) b.1 r h)) (jW (lU (IA n)) (jW (tY (EL n)) j9)))))))),ke,mU _,nn _,oR,oS,pM,qe⟩ func248 rfl rfl (by simp only[go_sem,fS,fT,fP,fQ,fU,fV,fX,fY,fZ,fR,fW,ga]) ((lm (lA jT.ku) li).nb _ _) ntmps248 results248 (fun J hs=>rS hs) (((I7 n).2 a0).trans h)
open Go.Proofs
@[go_sem]def acU:wH:=⟨[],[],(zT (mZ jV.row)::zA::zA::zK::nf (nf (nf (zA::zA::zA::[])))),[],none,none⟩
@[reducible] def Vw:kR Bool:=nX fO f30 n (nT fO [.tmp 2] nk) (cd:=N5 [(69,nG (rL (mZ jV.row) (lJ jV.ku) (lR .i64) (adV n)))]) (rK:=qF [([0,1,0,1],acU)]) (uO:=mc []) (uR:=mc [])
@[go_sem]def aoE:sP (Vw n) [0,0,0,1,0,0,1,0,1]=true:=jR
@[go_sem]abbrev acV(v0:List jV)(v1:Int):jX:=⟨(.lS false 4 (mp jV.cells v0)::qA::qA::.int .i64 v1::nv (nv (nv (qA::qA::qA::[])))),[],0,[]⟩
abbrev CT:=(List jV)->Int->Option Bool
abbrev am9(K:List Kt)(Z:CT):Prop:=∀v0 v1,run (Vw n) K (acV v0 v1)=Z v0 v1
def Gf:LB (am9 n) [0,1,0,1] [.qU 0,.cut [1,1],.at [1,1]]:=mB
def Gg:Nat->CT:=xb ((Gf n).1)
def Xa{n:Nat}:Gg n (m+1)=(Gf n).1 (Gg n m):=rfl
@[go_sem]def aih(m:Nat):=yL (Gf n) (Gg n) m
def Vx:R2 (Vw n) (mZ jV.row) 19:=mB
def JQ:=fu fun n=>(Vx n).1
def acW:∀n:Nat,zm fO 30 (mZ jV.row) nk (JQ n):=AH fun n=>Ap (Vx n) (gd j9 (oJ (pm (ard n)) ke)) func30 ntmps30 results30
@[go_sem]def BW:=(mH mb (mH (lR .i64) (mH (lR .i64) (mH (mZ mq) k7))))
@[go_sem]abbrev DN(F:Str->Int->Int->(List Str)->Option TQ)(b:Unit)(a:(Str×(Int×(Int×To)))):=F a.1 a.2.1 a.2.2.1 a.2.2.2.1
@[go_sem]def Ru(F:Str->Int->Int->(List Str)->Option TQ):=wI true [] Fw BW Fw (mH (lJ kv.ku) k7) Fw j8 (DN F)
@[reducible] def agC:kR TQ:=nX fO f71 n (qI fO [.cell 8 100] [] [] 0 Fw (mH (lJ kv.ku) k7)) (cl:=ni [(118,rL mb (mZ mq) (ty3 (mZ kH.row) (lR .i64) (lR .i64)) (Rp n))]) (pT:=qJ [] [] 0 Fw j8)
def I8:SX (agC n) BW Fw 33 DN:=Al
def GJ:=fu fun n=>(I8 n).1
def aeC:∀n:Nat,sV fO 71 BW Fw true Fw (mH (lJ kv.ku) k7) Fw j8 (DN (GJ n)):=Wa fun n=>Dk (I8 n) (gd (jW (pg (aoA n)) j9) ke) func71 ntmps71 results71
@[go_sem]abbrev sJ(F:jU->Option TL)(b:T6)(a:Unit):=F b.1.1
@[go_sem]def EO(F:jU->Option TL):=wI true [.arg 0 []] jS (my 0 k7) jS (mH (lJ j7.ku) k7) jS j8 (sJ F)
@[reducible] def aaI:kR TL:=nX fO f274 n (qI fO [.cell 2 80] [] [0] 1 jS (mH (lJ j7.ku) k7)) (cl:=ni [(122,nu [0] (lm (lA jU.ku) li) (pS 0 (Ao mb pG)) (lm (lA jU.ku) li) (sr nk pd) (fun(b:Td) a=>(l6 n) b.1 a.1))]) (pT:=qJ [] [0] 1 jS j8) (cp:=Aj [(281,MM (pQ n))]) (wF:=mc [281])
def EP:SX (aaI n) (my 0 k7) jS 11 sJ:=Al
def yC:=fu fun n=>(EP n).1
def Ly:∀n:Nat,sV fO 274 (my 0 k7) jS true jS (mH (lJ j7.ku) k7) jS j8 (sJ (yC n)):=Wa fun n=>Dk (EP n) (gd (jW (kK (fun b a r h=>(mJ n) b.1 a.1 r h)) j9) ke (p:=(kz (kS (YT n)) lT))) func274 ntmps274 results274
def MN:wH:=⟨[],[],(zK::vD (nf (nf (nf (zA::zA::zA::zT (mZ mq)::zK::zK::mG (zA::zA::[])))))),[oC [zK,zK,zK,zK],oM (lJ jV.ku),oM (lJ jV.ku),oK],none,none⟩
def MO:wH:=⟨[],[],(zK::zA::zA::zK::zA::zA::zK::zK::zT (mZ mq)::mG (mG (nf (nf (nf (zA::zA::zA::zT (mZ mq)::zK::zK::mG (mG (nf (nf (zA::zA::[])))))))))),[oC [zK,zK,zK,zK],oM (lJ jV.ku),oM (lJ jV.ku),oK,oT jV.ku],none,(some (6,2))⟩
def MP:wH:=⟨[],[],(zK::zA::zA::zK::zA::zA::zK::zK::zT (mZ mq)::mG (mG (nf (nf (nf (zA::zA::zA::zT (mZ mq)::zK::zK::mG (mG (nf (nf (zA::zA::[])))))))))),[oC [zK,zK,zK,zK],oM (lJ jV.ku),oM (lJ jV.ku),oK,oT jV.ku],none,(some (6,1))⟩
@[go_sem]abbrev A5(F:jV->Int->Tf->Tf->Ta->Option TV)(b:T7)(a:(jV×Unit)):=F a.1 b.1.1 b.2.1 b.2.2.1 b.2.2.2.1
@[go_sem]def OI(F:jV->Int->Tf->Tf->Ta->Option TV):=aaj [.arg 0 [],.Ci 0 0 [],.Ci 0 1 [],.Ci 0 2 []] lE (my 0 (mH (lJ jV.ku) k7)) lE (mH (lR .i64) k7) (A5 F)
@[reducible] def A6:kR TV:=nX fO f219 n (Dj fO [.tmp 4] [] [0,1,2,3] 4 lE (mH (lR .i64) k7)) (cl:=ni [(195,rL (mZ mq) mb nk (nZ n)),(242,mD (lJ jV.ku) (lR .i64) (Lu n)),(244,mD (lJ jV.ku) nk (Bm n))]) (rK:=qF [([0,1,0,1,1,1,1,1,1,1,1],MN),([0,1,0,1,1,1,1,1,1],MO),([0,1,0,1,1,1,1,1,1],MP)]) (cp:=Aj [(243,K1 (FQ n))]) (wF:=mc [243])
attribute [go_sem] MN MO MP
abbrev MQ(v0:List Str)(v1 v2 v3:Int)(r1 r2:List (Str×jV))(r3:List (Str×Bool)):jX:=⟨(.ptr 0 0::vC (nv (nv (nv (qA::qA::qA::.lS false 1 (mp nh v0)::.int .i64 v1::.int .i64 v2::mM (qA::qA::[])))))),[.cells [.map 1,.map 2,.map 3,.int .i64 v3],.map (mp (Pr (lJ jV.ku)) r1),.map (mp (Pr (lJ jV.ku)) r2),.map (mp Gr r3)],4,[]⟩
abbrev EQ:List Kt:=[.qU 2,.cut [1,1,1,1,1,1,1,1,1],.at [1,1,1,1,1,1,1,1,1]]
abbrev MR:=(List Str)->Int->Int->Int->Tf->Tf->Ta->Option TV
abbrev aaJ(K:List Kt)(Z:MR):Prop:=∀v0 v1 v2 v3 r1 r2 r3,run (A6 n) K (MQ v0 v1 v2 v3 r1 r2 r3)=Z v0 v1 v2 v3 r1 r2 r3
abbrev MS(v0:Str)(v1 v2:List Str)(v3 v4 v5:Int)(r1 r2:List (Str×jV))(r3:List (Str×Bool))(o4:jV):jX:=⟨(.ptr 0 0::qA::qA::.ptr 4 0::qA::qA::.map 2::.str (sb v0)::.lS false 1 (mp nh v1)::mM (mM (nv (nv (nv (qA::qA::qA::.lS false 1 (mp nh v2)::.int .i64 v3::.int .i64 v4::mM (mM (nv (nv (qA::qA::[])))))))))),[.cells [.map 1,.map 2,.map 3,.int .i64 v5],.map (mp (Pr (lJ jV.ku)) r1),.map (mp (Pr (lJ jV.ku)) r2),.map (mp Gr r3),.cells (jV.cells o4)],4,[]⟩
abbrev ER:List Kt:=[.qU 0,.cut [1,1,1,1,1,1,1],.at [1,1,1,1,1,1,1]]
abbrev Ab:=Str->(List Str)->(List Str)->Int->Int->Int->Tf->Tf->Ta->jV->Option TV
abbrev aaK(K:List Kt)(Z:Ab):Prop:=∀v0 v1 v2 v3 v4 v5 r1 r2 r3 o4,run (A6 n) K (MS v0 v1 v2 v3 v4 v5 r1 r2 r3 o4)=Z v0 v1 v2 v3 v4 v5 r1 r2 r3 o4
abbrev MT(v0:Str)(v1 v2:List Str)(v3 v4 v5:Int)(r1 r2:List (Str×jV))(r3:List (Str×Bool))(o4:jV):jX:=⟨(.ptr 0 0::qA::qA::.ptr 4 0::qA::qA::.map 1::.str (sb v0)::.lS false 1 (mp nh v1)::mM (mM (nv (nv (nv (qA::qA::qA::.lS false 1 (mp nh v2)::.int .i64 v3::.int .i64 v4::mM (mM (nv (nv (qA::qA::[])))))))))),[.cells [.map 1,.map 2,.map 3,.int .i64 v5],.map (mp (Pr (lJ jV.ku)) r1),.map (mp (Pr (lJ jV.ku)) r2),.map (mp Gr r3),.cells (jV.cells o4)],4,[]⟩
abbrev aaL(K:List Kt)(Z:Ab):Prop:=∀v0 v1 v2 v3 v4 v5 r1 r2 r3 o4,run (A6 n) K (MT v0 v1 v2 v3 v4 v5 r1 r2 r3 o4)=Z v0 v1 v2 v3 v4 v5 r1 r2 r3 o4
attribute [go_sem] MQ EQ MS ER MT
def wY:LB (aaJ n) [0,1,0,1,1,1,1,1,1,1,1] EQ:=yp
def ug:Nat->MR:=xb ((wY n).1)
def JR{n:Nat}:ug n (m+1)=(wY n).1 (ug n m):=rfl
@[go_sem]def Vy(m:Nat):=yL (wY n) (ug n) m
def wZ:LB (aaK n) [0,1,0,1,1,1,1,1,1] ER:=yp
def w4:Nat->Ab:=xb ((wZ n).1)
def JS{n:Nat}:w4 n (m+1)=(wZ n).1 (w4 n m):=rfl
@[go_sem]def Vz(m:Nat):=yL (wZ n) (w4 n) m
def w5:LB (aaL n) [0,1,0,1,1,1,1,1,1] ER:=yp
def w6:Nat->Ab:=xb ((w5 n).1)
def JT{n:Nat}:w6 n (m+1)=(w5 n).1 (w6 n m):=rfl
@[go_sem]def VA(m:Nat):=yL (w5 n) (w6 n) m
def Gh:SX (A6 n) (my 0 (mH (lJ jV.ku) k7)) lE 101 A5:=Al
def DO:=fu fun n=>(Gh n).1
def aaM:∀n:Nat,R8 fO 219 (my 0 (mH (lJ jV.ku) k7)) lE lE (mH (lR .i64) k7) (A5 (DO n)):=ahI fun n=>abF (Gh n) (gd (jW (pg (GR n)) (jW (lU (aig n)) (jW (lU (GB n)) j9))) ke (p:=(kz (kS (WB n)) lT))) func219 ntmps219 results219
def yj:=(mH mb (mH (lR .i64) (mH (lR .i64) (mH (mZ jV.row) k7))))
def IE:=(alK (.uE (.pointer none)) aGb (mH (lR .i64) (mH (lR .i64) k7)))
def IF:=(my 0 (mH (lR .i64) (mH (lR .i64) k7)))
attribute [go_sem] yj IE IF
@[go_sem]abbrev Lz(F:Str->Int->Int->(List jV)->Option TW)(b:Unit)(a:T16):=F a.1 a.2.1 a.2.2.1 a.2.2.2.1
@[go_sem]def acX(F:Str->Int->Int->(List jV)->Option TW):=wI false [] Fw yj Fw IE kI IF (Lz F)
@[reducible] def ana:kR TW:=nX fO f36 n (afd fO [.tmp 8,.tmp 9,.tmp 10] [] [] 0 Fw IE [.arg 0 []] kI IF) (cl:=ni [(21,rL mb (mZ mq) (ty3 (mZ kH.row) (lR .i64) (lR .i64)) (YX n)),(22,mD (mZ jV.row) (mZ mq) (NJ n))])
def Rv:SX (ana n) yj Fw 39 Lz:=mC
def Qk:=fu fun n=>(Rv n).1
def ak8:∀n:Nat,sV fO 36 yj Fw false Fw IE kI IF (Lz (Qk n)):=Wa fun n=>aHA (Rv n) (gd (jW (pg (aoD n)) (jW (lU (ajq n)) j9)) ke) func36 ntmps36 results36
open Go.Proofs
@[go_sem]def aii:wH:=⟨[],[],(zT (mZ jV.row)::zA::zA::zK::zK::mG (mG (mG (nf (zA::[]))))),[],none,none⟩
@[go_sem]def aij:wH:=⟨[],[],(zT (mZ jV.row)::zA::zA::zK::mG (mG (mG (nf (zA::zA::[]))))),[],none,none⟩
@[reducible] def acY:kR Bool:=nX fO f12 n (nT fO [.tmp 2] nk) (cl:=ni [(30,mD (mZ jV.row) nk (JQ n))]) (rK:=qF [([0,1,1,0,0,1,0,0,1,0,1],aii),([0,1,0,1],aij)])
abbrev aik(v0:List jV)(v1 v2:Int):jX:=⟨(.lS false 4 (mp jV.cells v0)::qA::qA::.int .i64 v1::.int .i64 v2::mM (mM (mM (nv (qA::[]))))),[],0,[]⟩
abbrev ail(m2:Nat):List Kt:=[.qU 2,.qU 1,.cut [1,1,0,0,1,0,1],.at [1,1,0,0,1,0,1],.lp m2 [0,1,0,1],.qU 0,.cut [1,1],.at [1,1]]
abbrev aim:=(List jV)->Int->Int->Option Bool
abbrev arh(K:List Kt)(Z:aim):Prop:=∀v0 v1 v2,run (acY n) K (aik v0 v1 v2)=Z v0 v1 v2
abbrev ain(v0:List jV)(v1:Int):jX:=⟨(.lS false 4 (mp jV.cells v0)::qA::qA::.int .i64 v1::mM (mM (mM (nv (qA::qA::[]))))),[],0,[]⟩
abbrev aLW(K:List Kt)(Z:CT):Prop:=∀v0 v1,run (acY n) K (ain v0 v1)=Z v0 v1
attribute [go_sem] aik ail ain
def LA:LB2 (aLW n) [0,1,0,1] [.qU 0,.cut [1,1],.at [1,1]] (arh n) [0,1,1,0,0,1,0,0,1,0,1] ail:=mB
def Ql(X2:CT):Nat->aim:=xb ((LA n).1 X2)
def acZ{n:Nat}(X2:CT):Ql n X2 (m+1)=(LA n).1 X2 (Ql n X2 m):=rfl
def ak9{m2:Nat}{X2}(h2:aLW n (.lq m2 [0,1,0,1]::[.qU 0,.cut [1,1],.at [1,1]]) X2)(m:Nat):=aqT (LA n) h2 (Ql n X2) m
def LC:LB (aLW n) [0,1,0,1] [.qU 0,.cut [1,1],.at [1,1]]:=by
 apply gf;intro m X0 ih v0 v1;simp (config:={maxSteps:=100000000}) only[go_sem,fS,fT,fP,fQ,fU,fV,fX,fY,fZ,fR,fW,ga,f12,gb,mixed,ak9 n ih,ih];exact rfl
def GK:Nat->CT:=xb ((LC n).1)
def ac0{n:Nat}:GK n (m+1)=(LC n).1 (GK n m):=rfl
@[go_sem]def ala(m:Nat):=yL (LC n) (GK n) m
def ac1:R2 (acY n) (mZ jV.row) 58:=mB
def adW:=fu fun n=>(ac1 n).1
def ari:∀n:Nat,zm fO 12 (mZ jV.row) nk (adW n):=AH fun n=>Ap (ac1 n) (gd (jW (lU (acW n)) j9) ke) func12 ntmps12 results12
@[go_sem]abbrev DP(F:Str->Int->Int->(List jV)->Option T11)(b:Unit)(a:T16):=F a.1 a.2.1 a.2.2.1 a.2.2.2.1
@[go_sem]def Rw(F:Str->Int->Int->(List jV)->Option T11):=wI true [] Fw yj jS (my 0 k7) Fw j8 (DP F)
@[reducible] def agD:kR T11:=nX fO f33 n (qI fO [.tmp 8] [.arg 0 []] [] 0 jS (my 0 k7)) (cl:=ni [(70,mD (mZ jV.row) (mZ mq) (Cm n))]) (pT:=qJ [] [] 0 Fw j8) (cp:=Aj [(71,Ru (GJ n))]) (wF:=mc [71])
def DQ:SX (agD n) yj Fw 21 DP:=Al
def zr:=fu fun n=>(DQ n).1
def aeD:∀n:Nat,sV fO 33 yj Fw true jS (my 0 k7) Fw j8 (DP (zr n)):=Wa fun n=>Dk (DQ n) (gd (jW (lU (aei n)) j9) ke (p:=(kz (kS (aeC n)) lT))) func33 ntmps33 results33
@[go_sem]def nN:=(EY (VP (alA 2 k7)) (EY (VP (my 3 k7)) (EY (ogA true j7.row) (EY (VP (alC jU.ku 6 k7)) Fw))))
@[go_sem]abbrev xw(F:Tk->jU->Option TH)(b:(Unit×(Unit×(Tk×T6))))(a:Unit):=F b.2.2.1 b.2.2.2.1.1
@[go_sem]def Ik(F:Tk->jU->Option TH):=wI true [.arg 0 [],.arg 1 [],.Ci 0 0 [],.Ci 1 0 []] nN (my 0 (my 1 k7)) nN k7 nN j8 (xw F)
@[reducible] def p7:kR TH:=nX fO f273 n (qI fO [] [] [0,1,2,3] 4 nN k7) (pT:=qJ [] [0,1,2,3] 4 nN j8) (co:=Mc [(274,E0 [.arg 0 []] jS (my 0 k7) jS (mH (lJ j7.ku) k7) jS j8 (sJ (yC n)))]) (uO:=mc [274]) (uR:=mc [])
def VB:sP (p7 n) []=true:=jR
def VC:Bh (p7 n) [] 1 2 0 4 1 4 2 4/\Bh (p7 n) [] 0 5 1 5 2 5 4 5:=⟨⟨jR,jR,jR,jR⟩,jR,jR,jR,jR⟩
def VD:Mb (p7 n) [] 2 3=true/\Mb (p7 n) [] 2 4=true/\Mb (p7 n) [] 2 5=true/\UD (p7 n) [] 2=false:=⟨jR,jR,jR,jR⟩
attribute [go_sem] VB VC VD
def Bw:SX (p7 n) (my 0 (my 1 k7)) nN 7 xw:=Al
def DR:=fu fun n=>(Bw n).1
def Sq:∀n:Nat,sV fO 273 (my 0 (my 1 k7)) nN true nN k7 nN j8 (xw (DR n)):=Wa fun n=>Dk (Bw n) (gd j9 ke (c:=(mw (zB (Ly n)) qL))) func273 ntmps273 results273
@[reducible] def aeE:kR TL:=nX fO f268 n (qI fO [.cell 2 80] [] [0] 1 jS (mH (lJ j7.ku) k7)) (cl:=ni [(56,qP (nG (mD (rI jU.ku) (lJ kH.ku) (mg n)))),(59,nu [0] (lm (lA jU.ku) li) (pS 0 pG) (lm (lA jU.ku) li) (sr mb pd) (fun(b:Td) a=>(lr n) b.1)),(122,nu [0] (lm (lA jU.ku) li) (pS 0 (Ao mb pG)) (lm (lA jU.ku) li) (sr nk pd) (fun(b:Td) a=>(l6 n) b.1 a.1)),(159,qP (nG (mD (rI jU.ku) nk (uV n))))]) (pT:=qJ [] [0] 1 jS j8) (cp:=Aj [(60,oV (mQ n)),(141,yZ (rN n)),(274,EO (yC n))]) (wF:=mc [60,141,274])
def Hw:SX (aeE n) (my 0 k7) jS 47 sJ:=Al
def Fb:=fu fun n=>(Hw n).1
def ac2:∀n:Nat,sV fO 268 (my 0 k7) jS true jS (mH (lJ j7.ku) k7) jS j8 (sJ (Fb n)):=Wa fun n=>Dk (Hw n) (gd (jW (lD (lu (mm n))) (jW (kK (fun b a r h=>(l5 n) b.1 r h)) (jW (kK (fun b a r h=>(mJ n) b.1 a.1 r h)) (jW (lD (lu (Cv n))) j9)))) ke (p:=(kz (kS (pH n)) (kz (kS (CR n)) (kz (kS (Ly n)) lT))))) func268 ntmps268 results268
@[go_sem]def PQ:wH:=⟨[],[],(nf (zK::zA::zA::zA::zT (mZ jV.row)::zK::zK::nf (nf (zA::[])))),[oC [zK,zK,zK,zK],oM (lJ jV.ku),oM (lJ jV.ku),oK],none,none⟩
@[go_sem]def BX:=(alK (.uE (.pointer none)) aGb (alK (.bool false) ayj k7))
@[go_sem]abbrev DS(F:(List jV)->Option TS)(b:Unit)(a:((List jV)×Unit)):=F a.1
@[go_sem]def Rx(F:(List jV)->Option TS):=wI false [] Fw (mH (mZ jV.row) k7) Fw BX lE (my 0 (alK (.bool true) ayj k7)) (DS F)
@[reducible] def Ry:kR TS:=nX fO f197 n (afd fO [.tmp 2,.tmp 3] [] [] 0 Fw BX [.arg 0 [],.Ci 0 0 [],.Ci 0 1 [],.Ci 0 2 []] lE (my 0 (alK (.bool true) ayj k7))) (cl:=ni [(218,PA (E6 n)),(219,OI (DO n))]) (rK:=qF [([0,1,0,1,1],PQ)])
@[go_sem]abbrev PS(v0:List jV)(v1 v2 v3:Int)(r1 r2:List (Str×jV))(r3:List (Str×Bool)):jX:=⟨(nv (.ptr 0 0::qA::qA::qA::.lS false 4 (mp jV.cells v0)::.int .i64 v1::.int .i64 v2::nv (nv (qA::[])))),[.cells [.map 1,.map 2,.map 3,.int .i64 v3],.map (mp (Pr (lJ jV.ku)) r1),.map (mp (Pr (lJ jV.ku)) r2),.map (mp Gr r3)],0,[]⟩
abbrev PT:=(List jV)->Int->Int->Int->Tf->Tf->Ta->Option TS
abbrev aeF(K:List Kt)(Z:PT):Prop:=∀v0 v1 v2 v3 r1 r2 r3,run (Ry n) K (PS v0 v1 v2 v3 r1 r2 r3)=Z v0 v1 v2 v3 r1 r2 r3
def yD:LB (aeF n) [0,1,0,1,1] [.qU 0,.cut [1,1,1],.at [1,1,1]]:=mB
def yE:Nat->PT:=xb ((yD n).1)
def MU{n:Nat}:yE n (m+1)=(yD n).1 (yE n m):=rfl
@[go_sem]def aLX(m:Nat):=yL (yD n) (yE n) m
def I9:SX (Ry n) (mH (mZ jV.row) k7) Fw 20 DS:=mC
def GL:=fu fun n=>(I9 n).1
def aeG:∀n:Nat,sV fO 197 (mH (mZ jV.row) k7) Fw false Fw BX lE (my 0 (alK (.bool true) ayj k7)) (DS (GL n)):=Wa fun n=>aHA (I9 n) (gd (jW (tY (abQ n)) (jW (tY (aaM n)) j9)) ke) func197 ntmps197 results197
@[reducible] def afT:kR TK:=nX fO f173 n (nT fO [.cell 4 29,.tmp 5,.tmp 6] (ty3 (lJ Syntax.ku) (lR .i64) (lR .i64))) (cl:=ni [(30,mD (mZ jV.row) nk (JQ n)),(203,nu [0] (lm (lA kj.ku) li) (pS 0 (Ao (lR .i64) pG)) (lm (lA kj.ku) li) (sr (lJ Syntax.ku) (sr (lR .i64) pd)) (fun(b:TJ) a=>(oI n) b.1 a.1))]) (uO:=mc []) (uR:=mc [])
@[go_sem]def aoF:sP (afT n) [0,0,1,0,1,1,1,1,1]=true:=jR
def VE:SC2 (afT n) (mZ jV.row) (mZ Syntax.row) 46:=mB
def Dc:=fu fun n=>(VE n).1
def anb:∀n:Nat,Gx fO 173 (mZ jV.row) (mZ Syntax.row) (ty3 (lJ Syntax.ku) (lR .i64) (lR .i64)) (Dc n):=IT fun n=>IS (VE n) (gd (jW (lU (acW n)) (jW (kK (fun b a r h=>(aaB n) b.1 a.1 r h)) j9)) ke) func173 ntmps173 results173
open Go.Proofs
@[go_sem]abbrev yF(F:jT->Option TA)(b:(T8×Unit))(a:Unit):=F b.1.1
@[go_sem]def sD(F:jT->Option TA):=aaj [.arg 0 []] kI (my 0 k7) kI (mH (lJ Syntax.ku) k7) (yF F)
structure kf where
 kX:jT->Option TA
 qg:jT->Option Te
 tH:jT->Option Te
 tI:jT->Option Te
 qw:jT->Str->Str->Option TF
 su:jT->Option Te
 qa:jT->Option Te
 qO:jT->Option Te
 rG:jT->Option Te
 oW:jT->Option (T8×Ts)
 tJ:jT->Option Te
 l7:jT->Option Te
 rk:jT->Syntax->Option Te
open Go.Proofs
@[reducible] def aeH(X:kf)(n:Nat):kR TA:=nX fO f37 n (Dj fO [.cell 2 29] [] [0] 1 kI (mH (lJ Syntax.ku) k7)) (cl:=ni [(61,qP (nG (mD (rI jT.ku) (lR .i64) (l3 n)))),(81,nu [0] (lm (lA jT.ku) li) (pS 0 (Ao (lR .i64) (Ao (lR .i64) pG))) (lm (lA jT.ku) li) pd (fun(b:T8) a=>(nK n) b.1 a.1 a.2.1)),(82,nu [0] (lm (lA jT.ku) li) (pS 0 pG) (lm (lA jT.ku) li) (sr (lJ Syntax.ku) pd) (fun(b:T8) a=>X.qg b.1))])
def yG(X:kf)(n:Nat):SX (aeH X n) (my 0 k7) kI 36 yF:=mC
open Go.Proofs
@[reducible] def ve(X:kf)(n:Nat):kR Te:=nX fO f82 n (Fi fO [.cell 2 29] (lm (lA jT.ku) li) (sr (lJ Syntax.ku) pd) 1) (cl:=ni [(37,sD X.kX),(61,qP (nG (mD (rI jT.ku) (lR .i64) (l3 n)))),(62,qP (nG (rL (rI jT.ku) mb nk (xf n)))),(63,nu [0] (lm (lA jT.ku) li) (pS 0 pG) (lm (lA jT.ku) li) pd (fun(b:T8) a=>(kW n) b.1)),(107,nu [0] (lm (lA jT.ku) li) (pS 0 (Ao mb pG)) (lm (lA jT.ku) li) pd (fun(b:T8) a=>(lP n) b.1 a.1)),(108,qP (nG (rL (rI jT.ku) mb nk (lM n)))),(127,nu [0] (lm (lA jT.ku) li) (pS 0 pG) (lm (lA jT.ku) li) (sr (lJ Syntax.ku) pd) (fun(b:T8) a=>X.tH b.1)),(128,nu [0] (lm (lA jT.ku) li) (pS 0 pG) (lm (lA jT.ku) li) (sr (lJ Syntax.ku) pd) (fun(b:T8) a=>X.tI b.1)),(129,nu [0] (lm (lA jT.ku) li) (pS 0 (Ao mb (Ao mb pG))) (lm (lA jT.ku) li) (sr (mZ mq) (sr (lJ Syntax.ku) pd)) (fun(b:T8) a=>X.qw b.1 a.1 a.2.1)),(130,atb (lR .i64) (lR .i64) (mZ mq) (mZ Syntax.row) (lJ Syntax.ku) (lR .i64) (lJ Syntax.ku) (Dr n)),(131,rL (mZ mq) (lJ Syntax.ku) (mZ Syntax.row) (vP n)),(132,nu [0] (lm (lA jT.ku) li) (pS 0 pG) (lm (lA jT.ku) li) (sr (lJ Syntax.ku) pd) (fun(b:T8) a=>X.su b.1)),(133,nu [0] (lm (lA jT.ku) li) (pS 0 (Ao (lR .i64) pG)) (lm (lA jT.ku) li) (sr (mZ mq) pd) (fun(b:T8) a=>(Dz n) b.1 a.1))]) (cd:=N5 [(130,nG (atb (lR .i64) (lR .i64) (mZ mq) (mZ Syntax.row) (lJ Syntax.ku) (lR .i64) (lJ Syntax.ku) (Dr n))),(131,nG (rL (mZ mq) (lJ Syntax.ku) (mZ Syntax.row) (vP n)))]) (co:=Mc [(37,E0 [.arg 0 []] kI (my 0 k7) kI (mH (lJ Syntax.ku) k7) kI (mH (lJ Syntax.ku) k7) (fun(b:(T8×Unit))(a:Unit)=>(X.kX b.1.1).map fun r=>(PR.ok r:PR TA TA)))]) (uO:=mc [37]) (uR:=mc [])
@[go_sem]def ac3(X:kf)(n:Nat):azD (ve X n) [0,1,1,0,1,1,1,1,1,1,1,1] [0,1,1,1,1,1,1,1] [0,1,1,1,1,1,1,1,1,1]:=⟨jR,jR,jR⟩
@[go_sem]def ac4(X:kf)(n:Nat):akF (ve X n) [0,1,1,0,1,1,1,1,1,1,1,1] 2 6 3 6 4 6/\aob (ve X n) [0,1,1,1,1,1,1,1] 1 4 2 4/\Bh (ve X n) [0,1,1,1,1,1,1,1,1,1] 2 5 2 9 5 9 7 9:=⟨⟨jR,jR,jR⟩,⟨jR,jR⟩,jR,jR,jR,jR⟩
def xJ(X:kf)(n:Nat):{B:jT->Option Te //∀(a0:jT),run (ve X n) [.at []] (UJ ((pS 0 pG).enc (a0,()) ()) 135 ((lm (lA jT.ku) li).enc (a0,())))=B a0}:=yp
open Go.Proofs
def PU:wH:=⟨[(4,1,true),(5,8,true)],[],(zK::zA::zK::zK::zK::zK::zK::vD (zA::zA::[])),[oT jT.ku,oK,oA mq,oA Syntax.row],none,none⟩
@[reducible] def zQ(X:kf)(n:Nat):kR Te:=nX fO f127 n (Fi fO [.cell 2 29] (lm (lA jT.ku) li) (sr (lJ Syntax.ku) pd) 1) (cl:=ni [(37,sD X.kX),(61,qP (nG (mD (rI jT.ku) (lR .i64) (l3 n)))),(63,nu [0] (lm (lA jT.ku) li) (pS 0 pG) (lm (lA jT.ku) li) pd (fun(b:T8) a=>(kW n) b.1)),(107,nu [0] (lm (lA jT.ku) li) (pS 0 (Ao mb pG)) (lm (lA jT.ku) li) pd (fun(b:T8) a=>(lP n) b.1 a.1)),(108,qP (nG (rL (rI jT.ku) mb nk (lM n)))),(109,nu [0] (lm (lA jT.ku) li) (pS 0 (Ao (lR .i64) pG)) (lm (lA jT.ku) li) pd (fun(b:T8) a=>(lX n) b.1 a.1)),(130,atb (lR .i64) (lR .i64) (mZ mq) (mZ Syntax.row) (lJ Syntax.ku) (lR .i64) (lJ Syntax.ku) (Dr n)),(167,nu [0] (lm (lA jT.ku) li) (pS 0 pG) (lm (lA jT.ku) li) (sr (mZ mq) pd) (fun(b:T8) a=>(rV n) b.1)),(168,nu [0] (lm (lA jT.ku) li) (pS 0 pG) (lm (lA jT.ku) li) (sr mb pd) (fun(b:T8) a=>(oB n) b.1)),(169,qP (nG (mD (rI jT.ku) (lR .i64) (mI n))))]) (cd:=N5 [(131,nG (rL (mZ mq) (lJ Syntax.ku) (mZ Syntax.row) (vP n)))]) (rK:=qF [([0,1,0,1,1,1,1,1],PU)]) (uO:=mc []) (uR:=mc [])
def agE(X:kf)(n:Nat):sP (zQ X n) [0,1,1,1,1,1,0,1,0,1,0,0,1,0,0,1,0,1,1,1,1,1]=true:=jR
def agF(X:kf)(n:Nat):aob (zQ X n) [0,1,1,1,1,1,0,1,0,1,0,0,1,0,0,1,0,1,1,1,1,1] 2 7 5 7:=⟨jR,jR⟩
attribute [go_sem] agE agF PU
@[go_sem]abbrev PV(v0 v1:Int)(o0:jT)(r2:List Str)(r3:List Syntax)(c2:Nat)(c3:Nat):jX:=⟨(.ptr 0 0::qA::.ptr 1 0::.int .i64 v0::.mE 2 c2::.mE 3 c3::.int .i64 v1::vC (qA::qA::[])),[.cells (jT.cells o0),.cells [.int .i64 0,.str (sb []),.int .i64 0,.lS true 0 [],.lS true 0 [],.lS true 0 [],.int .i64 0,.int .i64 0],.mE true 1 (mp nh r2),.mE true 8 (mp Syntax.cells r3)],1,[]⟩
abbrev PW:=Int->Int->jT->(List Str)->(List Syntax)->Option Te
abbrev aeI(X:kf)(n:Nat)(K:List Kt)(Z:PW):Prop:=∀v0 v1 o0 r2 r3 c2 c3,c2=r2.length->c3=r3.length->run (zQ X n) K (PV v0 v1 o0 r2 r3 c2 c3)=Z v0 v1 o0 r2 r3
def wx(X:kf)(n:Nat):LB (aeI X n) [0,1,0,1,1,1,1,1] [.qU 0,.cut [1,1,1,1,1,1],.at [1,1,1,1,1,1]]:=mB
def sE(X:kf)(n:Nat):Nat->PW:=xb ((wx X n).1)
def ES(X:kf){n:Nat}:sE X n (m+1)=(wx X n).1 (sE X n m):=rfl
@[go_sem]def aLY(X:kf)(n:Nat)(m:Nat):=yL (wx X n) (sE X n) m
def DT(X:kf)(n:Nat):{B:jT->Option Te //∀(a0:jT),run (zQ X n) [.at []] (UJ ((pS 0 pG).enc (a0,()) ()) 73 ((lm (lA jT.ku) li).enc (a0,())))=B a0}:=mB
open Go.Proofs
@[reducible] def DU(X:kf)(n:Nat):kR Te:=nX fO f128 n (Fi fO [.cell 2 29] (lm (lA jT.ku) li) (sr (lJ Syntax.ku) pd) 1) (cl:=ni [(37,sD X.kX),(61,qP (nG (mD (rI jT.ku) (lR .i64) (l3 n)))),(63,nu [0] (lm (lA jT.ku) li) (pS 0 pG) (lm (lA jT.ku) li) pd (fun(b:T8) a=>(kW n) b.1)),(107,nu [0] (lm (lA jT.ku) li) (pS 0 (Ao mb pG)) (lm (lA jT.ku) li) pd (fun(b:T8) a=>(lP n) b.1 a.1)),(108,qP (nG (rL (rI jT.ku) mb nk (lM n)))),(168,nu [0] (lm (lA jT.ku) li) (pS 0 pG) (lm (lA jT.ku) li) (sr mb pd) (fun(b:T8) a=>(oB n) b.1)),(169,qP (nG (mD (rI jT.ku) (lR .i64) (mI n))))]) (co:=Mc [(37,E0 [.arg 0 []] kI (my 0 k7) kI (mH (lJ Syntax.ku) k7) kI (mH (lJ Syntax.ku) k7) (fun(b:(T8×Unit))(a:Unit)=>(X.kX b.1.1).map fun r=>(PR.ok r:PR TA TA)))]) (uO:=mc [37]) (uR:=mc [])
@[go_sem]def agG(X:kf)(n:Nat):sP (DU X n) [0,1,1,1,1,1,1,1,1,1]=true:=jR
@[go_sem]def agH(X:kf)(n:Nat):akF (DU X n) [0,1,1,1,1,1,1,1,1,1] 0 6 1 6 3 6:=⟨jR,jR,jR⟩
def DV(X:kf)(n:Nat):{B:jT->Option Te //∀(a0:jT),run (DU X n) [.at []] (UJ ((pS 0 pG).enc (a0,()) ()) 44 ((lm (lA jT.ku) li).enc (a0,())))=B a0}:=yp
open Go.Proofs
@[reducible] def Ac(X:kf)(n:Nat):kR TF:=nX fO f129 n (Fi fO [.tmp 6,.cell 7 29] (lm (lA jT.ku) li) (sr (mZ mq) (sr (lJ Syntax.ku) pd)) 1) (cl:=ni [(37,sD X.kX),(107,nu [0] (lm (lA jT.ku) li) (pS 0 (Ao mb pG)) (lm (lA jT.ku) li) pd (fun(b:T8) a=>(lP n) b.1 a.1)),(167,nu [0] (lm (lA jT.ku) li) (pS 0 pG) (lm (lA jT.ku) li) (sr (mZ mq) pd) (fun(b:T8) a=>(rV n) b.1)),(168,nu [0] (lm (lA jT.ku) li) (pS 0 pG) (lm (lA jT.ku) li) (sr mb pd) (fun(b:T8) a=>(oB n) b.1))]) (uO:=mc []) (uR:=mc [])
@[go_sem]def aaN(X:kf)(n:Nat):sP (Ac X n) [0,1,1,1,1,1,1,1]=true:=jR
@[go_sem]def aaO(X:kf)(n:Nat):N3 (Ac X n) [0,1,1,1,1,1,1,1] 1 3=true:=jR
def Ad(X:kf)(n:Nat):{B:jT->Str->Str->Option TF //∀(a0:jT)(a1:Str)(a2:Str),run (Ac X n) [.at []] (UJ ((pS 0 (Ao mb (Ao mb pG))).enc (a0,()) (a1,a2,())) 29 ((lm (lA jT.ku) li).enc (a0,())))=B a0 a1 a2}:=mB
open Go.Proofs
@[go_sem]def Rz:wH:=⟨[(3,8,true)],[],(zK::zA::zK::zK::vD (mG (mG (nf [])))),[oT jT.ku,oK,oA Syntax.row],none,none⟩
@[reducible] def LD(X:kf)(n:Nat):kR Te:=nX fO f132 n (Fi fO [.cell 2 29] (lm (lA jT.ku) li) (sr (lJ Syntax.ku) pd) 1) (cl:=ni [(38,qP (nG (mD (rI jT.ku) (lJ kH.ku) (mi n)))),(39,nu [0] (lm (lA jT.ku) li) (pS 0 pG) (lm (lA jT.ku) li) pd (fun(b:T8) a=>(oH n) b.1)),(61,qP (nG (mD (rI jT.ku) (lR .i64) (l3 n)))),(63,nu [0] (lm (lA jT.ku) li) (pS 0 pG) (lm (lA jT.ku) li) pd (fun(b:T8) a=>(kW n) b.1)),(81,nu [0] (lm (lA jT.ku) li) (pS 0 (Ao (lR .i64) (Ao (lR .i64) pG))) (lm (lA jT.ku) li) pd (fun(b:T8) a=>(nK n) b.1 a.1 a.2.1)),(109,nu [0] (lm (lA jT.ku) li) (pS 0 (Ao (lR .i64) pG)) (lm (lA jT.ku) li) pd (fun(b:T8) a=>(lX n) b.1 a.1)),(169,qP (nG (mD (rI jT.ku) (lR .i64) (mI n)))),(170,qP (nG (mD (rI jT.ku) nk (ud n)))),(171,qP (nG (mD (rI jT.ku) nk (yB n)))),(172,nu [0] (lm (lA jT.ku) li) (pS 0 pG) (lm (lA jT.ku) li) (sr (lJ Syntax.ku) pd) (fun(b:T8) a=>X.qa b.1)),(173,rL (mZ jV.row) (mZ Syntax.row) (ty3 (lJ Syntax.ku) (lR .i64) (lR .i64)) (Dc n))]) (rK:=qF [([0,0,1,1],Rz)])
@[go_sem]abbrev RA(o0:jT)(r2:List Syntax)(c2:Nat):jX:=⟨(.ptr 0 0::qA::.ptr 1 0::.mE 2 c2::vC (mM (mM (nv [])))),[.cells (jT.cells o0),.cells [.int .i64 0,.str (sb []),.int .i64 0,.lS true 0 [],.lS true 0 [],.lS true 0 [],.int .i64 0,.int .i64 0],.mE true 8 (mp Syntax.cells r2)],1,[]⟩
abbrev RC:=jT->(List Syntax)->Option Te
abbrev agI(X:kf)(n:Nat)(K:List Kt)(Z:RC):Prop:=∀o0 r2 c2,c2=r2.length->run (LD X n) K (RA o0 r2 c2)=Z o0 r2
def xh(X:kf)(n:Nat):LB (agI X n) [0,0,1,1] [.qU 0,.cut [1,1,1],.at [1,1,1]]:=mB
def qT(X:kf)(n:Nat):Nat->RC:=xb ((xh X n).1)
def Gi(X:kf){n:Nat}:qT X n (m+1)=(xh X n).1 (qT X n m):=rfl
@[go_sem]def aaP(X:kf)(n:Nat)(m:Nat):=yL (xh X n) (qT X n) m
def Fc(X:kf)(n:Nat):{B:jT->Option Te //∀(a0:jT),run (LD X n) [.at []] (UJ ((pS 0 pG).enc (a0,()) ()) 104 ((lm (lA jT.ku) li).enc (a0,())))=B a0}:=mB
open Go.Proofs
@[go_sem]def PX:wH:=⟨[],[],(zK::zA::zK::zK::zK::mG (nf (zA::[]))),[oT jT.ku,oK,oT Syntax.ku],none,none⟩
@[reducible] def Ja(X:kf)(n:Nat):kR Te:=nX fO f172 n (Fi fO [.cell 2 29] (lm (lA jT.ku) li) (sr (lJ Syntax.ku) pd) 1) (cl:=ni [(109,nu [0] (lm (lA jT.ku) li) (pS 0 (Ao (lR .i64) pG)) (lm (lA jT.ku) li) pd (fun(b:T8) a=>(lX n) b.1 a.1)),(171,qP (nG (mD (rI jT.ku) nk (yB n)))),(202,nu [0] (lm (lA jT.ku) li) (pS 0 pG) (lm (lA jT.ku) li) (sr (lJ Syntax.ku) pd) (fun(b:T8) a=>X.qO b.1))]) (rK:=qF [([0,1,0,1,1],PX)])
@[go_sem]abbrev PY(v0:Int)(o0:jT)(o2:Syntax):jX:=⟨(.ptr 0 0::qA::.ptr 1 0::.ptr 2 0::.int .i64 v0::mM (nv (qA::[]))),[.cells (jT.cells o0),.cells [.int .i64 0,.str (sb []),.int .i64 0,.lS true 0 [],.lS true 0 [],.lS true 0 [],.int .i64 0,.int .i64 0],.cells (Syntax.cells o2)],1,[]⟩
abbrev wy:=Int->jT->Syntax->Option Te
abbrev aeJ(X:kf)(n:Nat)(K:List Kt)(Z:wy):Prop:=∀v0 o0 o2,run (Ja X n) K (PY v0 o0 o2)=Z v0 o0 o2
def wz(X:kf)(n:Nat):LB (aeJ X n) [0,1,0,1,1] [.qU 0,.cut [1,1,1],.at [1,1,1]]:=mB
def wA(X:kf)(n:Nat):Nat->wy:=xb ((wz X n).1)
def ET(X:kf){n:Nat}:wA X n (m+1)=(wz X n).1 (wA X n m):=rfl
@[go_sem]def aLZ(X:kf)(n:Nat)(m:Nat):=yL (wz X n) (wA X n) m
def DW(X:kf)(n:Nat):{B:jT->Option Te //∀(a0:jT),run (Ja X n) [.at []] (UJ ((pS 0 pG).enc (a0,()) ()) 26 ((lm (lA jT.ku) li).enc (a0,())))=B a0}:=mB
open Go.Proofs
def OJ:wH:=⟨[],[],(zK::zA::zK::zK::zK::mG (nf (nf (zA::zA::zA::[])))),[oT jT.ku,oK,oT Syntax.ku],none,none⟩
@[reducible] def yH(X:kf)(n:Nat):kR Te:=nX fO f202 n (Fi fO [.cell 2 29] (lm (lA jT.ku) li) (sr (lJ Syntax.ku) pd) 1) (cl:=ni [(63,nu [0] (lm (lA jT.ku) li) (pS 0 pG) (lm (lA jT.ku) li) pd (fun(b:T8) a=>(kW n) b.1)),(108,qP (nG (rL (rI jT.ku) mb nk (lM n)))),(109,nu [0] (lm (lA jT.ku) li) (pS 0 (Ao (lR .i64) pG)) (lm (lA jT.ku) li) pd (fun(b:T8) a=>(lX n) b.1 a.1)),(225,nu [0] (lm (lA jT.ku) li) (pS 0 pG) (lm (lA jT.ku) li) (sr (lJ Syntax.ku) pd) (fun(b:T8) a=>X.rG b.1))]) (rK:=qF [([0,1,0,1,1],OJ)]) (co:=Mc [(169,QJ (nG (mD (rI jT.ku) (lR .i64) (mI n))))]) (uO:=mc [169]) (uR:=mc [])
def aeK(X:kf)(n:Nat):sP (yH X n) [1,1,1,1,0,0,1,0,0,1,0,1,1]=true:=jR
def aeL(X:kf)(n:Nat):akF (yH X n) [1,1,1,1,0,0,1,0,0,1,0,1,1] 1 8 4 8 6 8:=⟨jR,jR,jR⟩
attribute [go_sem] aeK aeL OJ
@[go_sem]abbrev OK(v0:Int)(o0:jT)(o2:Syntax):jX:=⟨(.ptr 0 0::qA::.ptr 1 0::.ptr 2 0::.int .i64 v0::mM (nv (nv (qA::qA::qA::[])))),[.cells (jT.cells o0),.cells [.int .i64 0,.str (sb []),.int .i64 0,.lS true 0 [],.lS true 0 [],.lS true 0 [],.int .i64 0,.int .i64 0],.cells (Syntax.cells o2)],1,[]⟩
abbrev ac5(X:kf)(n:Nat)(K:List Kt)(Z:wy):Prop:=∀v0 o0 o2,run (yH X n) K (OK v0 o0 o2)=Z v0 o0 o2
def vf(X:kf)(n:Nat):LB (ac5 X n) [0,1,0,1,1] [.qU 0,.cut [1,1,1],.at [1,1,1]]:=yp
def p8(X:kf)(n:Nat):Nat->wy:=xb ((vf X n).1)
def DX(X:kf){n:Nat}:p8 X n (m+1)=(vf X n).1 (p8 X n m):=rfl
@[go_sem]def Xb(X:kf)(n:Nat)(m:Nat):=yL (vf X n) (p8 X n) m
def BY(X:kf)(n:Nat):{B:jT->Option Te //∀(a0:jT),run (yH X n) [.at []] (UJ ((pS 0 pG).enc (a0,()) ()) 32 ((lm (lA jT.ku) li).enc (a0,())))=B a0}:=yp
open Go.Proofs
@[reducible] def PZ(X:kf)(n:Nat):kR Te:=nX fO f225 n (Fi fO [.cell 2 29] (lm (lA jT.ku) li) (sr (lJ Syntax.ku) pd) 1) (cl:=ni [(38,qP (nG (mD (rI jT.ku) (lJ kH.ku) (mi n)))),(39,nu [0] (lm (lA jT.ku) li) (pS 0 pG) (lm (lA jT.ku) li) pd (fun(b:T8) a=>(oH n) b.1)),(61,qP (nG (mD (rI jT.ku) (lR .i64) (l3 n)))),(62,qP (nG (rL (rI jT.ku) mb nk (xf n)))),(63,nu [0] (lm (lA jT.ku) li) (pS 0 pG) (lm (lA jT.ku) li) pd (fun(b:T8) a=>(kW n) b.1)),(104,PN (vU n)),(107,nu [0] (lm (lA jT.ku) li) (pS 0 (Ao mb pG)) (lm (lA jT.ku) li) pd (fun(b:T8) a=>(lP n) b.1 a.1)),(108,qP (nG (rL (rI jT.ku) mb nk (lM n)))),(111,nu [0] (lm (lA jT.ku) li) (pS 0 pG) (lm (lA jT.ku) li) (sr (lR .i64) pd) (fun(b:T8) a=>(qv n) b.1)),(169,qP (nG (mD (rI jT.ku) (lR .i64) (mI n)))),(247,nu [0] (lm (lA jT.ku) li) (pS 0 pG) (lm (lA jT.ku) li) (sr (mZ j7.row) pd) (fun(b:T8) a=>(BV n) b.1)),(248,nu [0] (lm (lA jT.ku) li) (pS 0 pG) (lm (lA jT.ku) li) (sr (lJ j7.ku) pd) (fun(b:T8) a=>(GI n) b.1)),(249,nu [0] (lm (lA jT.ku) li) (pS 0 pG) (lm (lA jT.ku) li) (sr (mZ Syntax.row) pd) (fun(b:T8) a=>X.oW b.1)),(250,nu [0] (lm (lA jT.ku) li) (pS 0 (Ao (lJ Syntax.ku) pG)) (lm (lA jT.ku) li) (sr (lJ Syntax.ku) pd) (fun(b:T8) a=>X.rk b.1 a.1))])
def BZ(X:kf)(n:Nat):{B:jT->Option Te //∀(a0:jT),run (PZ X n) [.at []] (UJ ((pS 0 pG).enc (a0,()) ()) 95 ((lm (lA jT.ku) li).enc (a0,())))=B a0}:=mB
open Go.Proofs
@[go_sem]def JU:wH:=⟨[(3,8,true)],[],(zK::zA::zA::zK::mG (nf (nf (zA::[])))),[oT jT.ku,oA Syntax.row],none,none⟩
@[reducible] def DY(X:kf)(n:Nat):kR (T8×Ts):=nX fO f249 n (Fi fO [.tmp 2] (lm (lA jT.ku) li) (sr (mZ Syntax.row) pd) 1) (cl:=ni [(63,nu [0] (lm (lA jT.ku) li) (pS 0 pG) (lm (lA jT.ku) li) pd (fun(b:T8) a=>(kW n) b.1)),(108,qP (nG (rL (rI jT.ku) mb nk (lM n)))),(109,nu [0] (lm (lA jT.ku) li) (pS 0 (Ao (lR .i64) pG)) (lm (lA jT.ku) li) pd (fun(b:T8) a=>(lX n) b.1 a.1)),(263,nu [0] (lm (lA jT.ku) li) (pS 0 pG) (lm (lA jT.ku) li) (sr (lJ Syntax.ku) pd) (fun(b:T8) a=>X.tJ b.1))]) (rK:=qF [([0,0,1,1],JU)])
@[go_sem]abbrev JV(o0:jT)(r1:List Syntax)(c1:Nat):jX:=⟨(.ptr 0 0::qA::qA::.mE 1 c1::mM (nv (nv (qA::[])))),[.cells (jT.cells o0),.mE true 8 (mp Syntax.cells r1)],1,[]⟩
abbrev JW:=jT->(List Syntax)->Option (T8×Ts)
abbrev Xc(X:kf)(n:Nat)(K:List Kt)(Z:JW):Prop:=∀o0 r1 c1,c1=r1.length->run (DY X n) K (JV o0 r1 c1)=Z o0 r1
def s6(X:kf)(n:Nat):LB (Xc X n) [0,0,1,1] [.qU 0,.cut [1,1,1],.at [1,1,1]]:=mB
def s7(X:kf)(n:Nat):Nat->JW:=xb ((s6 X n).1)
def Az(X:kf){n:Nat}:s7 X n (m+1)=(s6 X n).1 (s7 X n m):=rfl
@[go_sem]def RD(X:kf)(n:Nat)(m:Nat):=yL (s6 X n) (s7 X n) m
def zb(X:kf)(n:Nat):{B:jT->Option (T8×Ts) //∀(a0:jT),run (DY X n) [.at []] (UJ ((pS 0 pG).enc (a0,()) ()) 29 ((lm (lA jT.ku) li).enc (a0,())))=B a0}:=mB
open Go.Proofs
@[go_sem]def P0:wH:=⟨[],[],(zK::zA::zK::zK::zK::mG (nf (zA::zA::zA::[]))),[oT jT.ku,oK,oT Syntax.ku],none,none⟩
@[reducible] def Jb(X:kf)(n:Nat):kR Te:=nX fO f263 n (Fi fO [.cell 2 29] (lm (lA jT.ku) li) (sr (lJ Syntax.ku) pd) 1) (cl:=ni [(63,nu [0] (lm (lA jT.ku) li) (pS 0 pG) (lm (lA jT.ku) li) pd (fun(b:T8) a=>(kW n) b.1)),(108,qP (nG (rL (rI jT.ku) mb nk (lM n)))),(109,nu [0] (lm (lA jT.ku) li) (pS 0 (Ao (lR .i64) pG)) (lm (lA jT.ku) li) pd (fun(b:T8) a=>(lX n) b.1 a.1)),(271,nu [0] (lm (lA jT.ku) li) (pS 0 pG) (lm (lA jT.ku) li) (sr (lJ Syntax.ku) pd) (fun(b:T8) a=>X.l7 b.1))]) (rK:=qF [([0,1,0,1,1],P0)])
@[go_sem]abbrev P1(v0:Int)(o0:jT)(o2:Syntax):jX:=⟨(.ptr 0 0::qA::.ptr 1 0::.ptr 2 0::.int .i64 v0::mM (nv (qA::qA::qA::[]))),[.cells (jT.cells o0),.cells [.int .i64 0,.str (sb []),.int .i64 0,.lS true 0 [],.lS true 0 [],.lS true 0 [],.int .i64 0,.int .i64 0],.cells (Syntax.cells o2)],1,[]⟩
abbrev aeM(X:kf)(n:Nat)(K:List Kt)(Z:wy):Prop:=∀v0 o0 o2,run (Jb X n) K (P1 v0 o0 o2)=Z v0 o0 o2
def wB(X:kf)(n:Nat):LB (aeM X n) [0,1,0,1,1] [.qU 0,.cut [1,1,1],.at [1,1,1]]:=mB
def wC(X:kf)(n:Nat):Nat->wy:=xb ((wB X n).1)
def EU(X:kf){n:Nat}:wC X n (m+1)=(wB X n).1 (wC X n m):=rfl
@[go_sem]def aL0(X:kf)(n:Nat)(m:Nat):=yL (wB X n) (wC X n) m
def DZ(X:kf)(n:Nat):{B:jT->Option Te //∀(a0:jT),run (Jb X n) [.at []] (UJ ((pS 0 pG).enc (a0,()) ()) 28 ((lm (lA jT.ku) li).enc (a0,())))=B a0}:=mB
open Go.Proofs
def LF:wH:=⟨[],[(2,3,1)],(zK::zA::zK::zK::vD (vD (mG (mG (mG (nf (nf (zA::zA::[])))))))),[oT jT.ku,oK,oC [zK,zK,zK,zK,zK,zK,zK,zK],oA mq],none,none⟩
def JX:wH:=⟨[],[],(zK::zA::zK::zK::vD (vD (mG (mG (mG (nf (nf (zA::zA::[])))))))),[oT jT.ku,oK,oC [zK,zK,zK,zT (mZ mq),zK,zT (mZ Syntax.row),zK,zK]],none,none⟩
def JY:wH:=⟨[],[],(zK::zA::zK::vD (vD (mG (mG (mG (nf (nf (zA::zA::zA::[])))))))),[oT jT.ku,oK],none,none⟩
@[reducible] def mh(X:kf)(n:Nat):kR Te:=nX fO f271 n (Fi fO [.cell 2 29] (lm (lA jT.ku) li) (sr (lJ Syntax.ku) pd) 1) (cl:=ni [(37,sD X.kX),(38,qP (nG (mD (rI jT.ku) (lJ kH.ku) (mi n)))),(39,nu [0] (lm (lA jT.ku) li) (pS 0 pG) (lm (lA jT.ku) li) pd (fun(b:T8) a=>(oH n) b.1)),(61,qP (nG (mD (rI jT.ku) (lR .i64) (l3 n)))),(63,nu [0] (lm (lA jT.ku) li) (pS 0 pG) (lm (lA jT.ku) li) pd (fun(b:T8) a=>(kW n) b.1)),(81,nu [0] (lm (lA jT.ku) li) (pS 0 (Ao (lR .i64) (Ao (lR .i64) pG))) (lm (lA jT.ku) li) pd (fun(b:T8) a=>(nK n) b.1 a.1 a.2.1)),(107,nu [0] (lm (lA jT.ku) li) (pS 0 (Ao mb pG)) (lm (lA jT.ku) li) pd (fun(b:T8) a=>(lP n) b.1 a.1)),(108,qP (nG (rL (rI jT.ku) mb nk (lM n)))),(109,nu [0] (lm (lA jT.ku) li) (pS 0 (Ao (lR .i64) pG)) (lm (lA jT.ku) li) pd (fun(b:T8) a=>(lX n) b.1 a.1)),(143,nu [0] (lm (lA jT.ku) li) (pS 0 pG) (lm (lA jT.ku) li) (sr mb pd) (fun(b:T8) a=>(rA n) b.1)),(167,nu [0] (lm (lA jT.ku) li) (pS 0 pG) (lm (lA jT.ku) li) (sr (mZ mq) pd) (fun(b:T8) a=>(rV n) b.1)),(168,nu [0] (lm (lA jT.ku) li) (pS 0 pG) (lm (lA jT.ku) li) (sr mb pd) (fun(b:T8) a=>(oB n) b.1)),(169,qP (nG (mD (rI jT.ku) (lR .i64) (mI n)))),(249,nu [0] (lm (lA jT.ku) li) (pS 0 pG) (lm (lA jT.ku) li) (sr (mZ Syntax.row) pd) (fun(b:T8) a=>X.oW b.1)),(271,nu [0] (lm (lA jT.ku) li) (pS 0 pG) (lm (lA jT.ku) li) (sr (lJ Syntax.ku) pd) (fun(b:T8) a=>X.l7 b.1)),(276,rL mb (mZ mq) nk (Ub n))]) (rK:=qF [([0,1,0,1,1,1,1,1,1,1,1,1,1,1,1,1,0,0,1,1,1,1,1,1],LF)]) (cut:=qF [([1,1,1,1,1,1,1],JX),([1,1],JY)]) (co:=Mc [(104,E0 [.arg 0 []] kI (my 0 k7) kI (mH mb k7) kI (mH mb k7) (fun(b:(T8×Unit))(a:Unit)=>((vU n) b.1.1).map fun r=>(PR.ok r:PR TO TO)))]) (uO:=mc [104]) (uR:=mc [])
def aaQ(X:kf)(n:Nat):sP (mh X n) [1,0,1,0,0,1,0,1,1,1,1,1,1,1,1,1,1,1,1,1,0,0,1,1,1,1,1,1]=true:=jR
def aaR(X:kf)(n:Nat):Bh (mh X n) [1,0,1,0,0,1,0,1,1,1,1,1,1,1,1,1,1,1,1,1,0,0,1,1,1,1,1,1] 1 5 3 5 1 7 3 7/\N3 (mh X n) [1,0,1,0,0,1,0,1,1,1,1,1,1,1,1,1,1,1,1,1,0,0,1,1,1,1,1,1] 5 7=true:=⟨⟨jR,jR,jR,jR⟩,jR⟩
attribute [go_sem] aaQ aaR LF JX JY
def zc(X:kf)(n:Nat)(K:List Kt)(J:jX):run (mh X n) (.cut [1,1,1,1,1,1]::K) J=aCd (mh X n) K 4 J J.kr[4]? :=aE6 rfl
@[go_sem]abbrev LG(o0:jT)(v1:Int)(v2:Str)(v3:Int)(r3:List Str)(c3:Nat):jX:=⟨(.ptr 0 0::qA::.ptr 1 0::.ptr 2 0::vC (vC (mM (mM (mM (nv (nv (qA::qA::[])))))))),[.cells (jT.cells o0),.cells [.int .i64 0,.str (sb []),.int .i64 0,.lS true 0 [],.lS true 0 [],.lS true 0 [],.int .i64 0,.int .i64 0],.cells [.int .i64 v1,.str (sb v2),.int .i64 0,.mE 3 c3,.lS true 0 [],.lS true 0 [],.int .i64 v3,.int .i64 0],.mE true 1 (mp nh r3)],1,[]⟩
@[go_sem]abbrev LH:List Kt:=[.qU 1,.qU 0,.cut [1,1,1,1,1,1,1],.at [1,1,1,1,1,1,1]]
abbrev LI:=jT->Int->Str->Int->(List Str)->Option Te
abbrev aL1(X:kf)(n:Nat)(K:List Kt)(Z:LI):Prop:=∀o0 v1 v2 v3 r3 c3,c3=r3.length->run (mh X n) K (LG o0 v1 v2 v3 r3 c3)=Z o0 v1 v2 v3 r3
@[go_sem]abbrev CU(o0:jT)(v1:Int)(v2:Str)(v3:List Str)(v4:List Syntax)(v5:Int):jX:=⟨(.ptr 0 0::qA::.ptr 1 0::.ptr 2 0::vC (vC (mM (mM (mM (nv (nv (qA::qA::[])))))))),[.cells (jT.cells o0),.cells [.int .i64 0,.str (sb []),.int .i64 0,.lS true 0 [],.lS true 0 [],.lS true 0 [],.int .i64 0,.int .i64 0],.cells [.int .i64 v1,.str (sb v2),.int .i64 0,.lS false 1 (mp nh v3),.lS true 0 [],.lS false 8 (mp Syntax.cells v4),.int .i64 v5,.int .i64 0]],1,[]⟩
def wg(X:kf)(n:Nat):{B:jT->Int->Str->(List Str)->(List Syntax)->Int->Option Te //∀(o0:jT)(v1:Int)(v2:Str)(v3:List Str)(v4:List Syntax)(v5:Int),run (mh X n) [.at [1,1,1,1,1,1,1]] (CU o0 v1 v2 v3 v4 v5)=B o0 v1 v2 v3 v4 v5}:=by
 apply gf;intro o0 v1 v2 v3 v4 v5;simp (config:={maxSteps:=100000000}) only[go_sem,fS,fT,fP,fQ,fU,fV,fX,fY,fZ,fR,fW,ga,f271,gb,mixed,↓zc];exact rfl
def LJ(X:kf)(n:Nat)(J:jX):Option Te:=run (mh X n) [.at [1,1,1,1,1,1,1]] J
def Bx(X:kf)(n:Nat):run (mh X n) [.cut [1,1,1,1,1,1,1],.at [1,1,1,1,1,1,1]] J=((mh X n).cut [1,1,1,1,1,1,1] J).bind (LJ X n):=alm
def AA(X:kf)(n:Nat):∀(o0:jT)(v1:Int)(v2:Str)(v3:List Str)(v4:List Syntax)(v5:Int),LJ X n (CU o0 v1 v2 v3 v4 v5)=(wg X n).1 o0 v1 v2 v3 v4 v5:=(wg X n).2
def rZ(X:kf)(n:Nat):LB (aL1 X n) [0,1,0,1,1,1,1,1,1,1,1,1,1,1,1,1,0,0,1,1,1,1,1,1] LH:=by
 apply gf;intro m X0 ih o0 v1 v2 v3 r3 c3 ec3;subst ec3;simp (config:={maxSteps:=100000000}) only[go_sem,fS,fT,fP,fQ,fU,fV,fX,fY,fZ,fR,fW,ga,f271,gb,mixed,↓zc,↓Bx X n,AA X n,ih];exact rfl
def r6(X:kf)(n:Nat):Nat->LI:=xb ((rZ X n).1)
def xy(X:kf){n:Nat}:r6 X n (m+1)=(rZ X n).1 (r6 X n m):=rfl
def G3(X:kf)(n:Nat)(m:Nat):=yL (rZ X n) (r6 X n) m
@[go_sem]abbrev CV(o0:jT):jX:=⟨(.ptr 0 0::qA::.ptr 1 0::vC (vC (mM (mM (mM (nv (nv (qA::qA::qA::[])))))))),[.cells (jT.cells o0),.cells [.int .i64 0,.str (sb []),.int .i64 0,.lS true 0 [],.lS true 0 [],.lS true 0 [],.int .i64 0,.int .i64 0]],1,[]⟩
def zd(X:kf)(n:Nat):{B:jT->Option Te //∀(o0:jT),run (mh X n) [.at [1,1]] (CV o0)=B o0}:=by
 apply gf;intro o0;simp (config:={maxSteps:=100000000}) only[go_sem,fS,fT,fP,fQ,fU,fV,fX,fY,fZ,fR,fW,ga,f271,gb,mixed,↓zc,↓Bx X n,AA X n,G3 X n];exact rfl
def LK(X:kf)(n:Nat)(J:jX):Option Te:=run (mh X n) [.at [1,1]] J
def VF(X:kf)(n:Nat):run (mh X n) [.cut [1,1],.at [1,1]] J=((mh X n).cut [1,1] J).bind (LK X n):=alm
def Ss(X:kf)(n:Nat):∀(o0:jT),LK X n (CV o0)=(zd X n).1 o0:=(zd X n).2
def w7(X:kf)(n:Nat):{B:jT->Option Te //∀(a0:jT),run (mh X n) [.at []] (UJ ((pS 0 pG).enc (a0,()) ()) 190 ((lm (lA jT.ku) li).enc (a0,())))=B a0}:=by
 apply gf;intro a0;simp (config:={maxSteps:=100000000}) only[go_sem,fS,fT,fP,fQ,fU,fV,fX,fY,fZ,fR,fW,ga,f271,gb,mixed,↓zc,↓Bx X n,AA X n,↓VF X n,Ss X n,G3 X n];exact rfl
open Go.Proofs
def LL:wH:=⟨[],[],(zK::zA::zA::zK::zK::zK::zK::zK::vD (nf (nf (nf (zA::zA::[]))))),[oT jT.ku,oT Syntax.ku,oK,oA Syntax.row,oT Syntax.ku],none,none⟩
def LM:wH:=⟨[],[],(zK::zA::zA::zK::zK::zK::vD (mG [])),[oT jT.ku,oT Syntax.ku,oK,oA Syntax.row],none,none⟩
@[reducible] def sK(X:kf)(n:Nat):kR Te:=nX fO f250 n (Fi fO [.cell 4 29] (lm (lA jT.ku) li) (sr (lJ Syntax.ku) pd) 1) (cl:=ni [(37,sD X.kX),(39,nu [0] (lm (lA jT.ku) li) (pS 0 pG) (lm (lA jT.ku) li) pd (fun(b:T8) a=>(oH n) b.1)),(63,nu [0] (lm (lA jT.ku) li) (pS 0 pG) (lm (lA jT.ku) li) pd (fun(b:T8) a=>(kW n) b.1)),(107,nu [0] (lm (lA jT.ku) li) (pS 0 (Ao mb pG)) (lm (lA jT.ku) li) pd (fun(b:T8) a=>(lP n) b.1 a.1)),(108,qP (nG (rL (rI jT.ku) mb nk (lM n)))),(109,nu [0] (lm (lA jT.ku) li) (pS 0 (Ao (lR .i64) pG)) (lm (lA jT.ku) li) pd (fun(b:T8) a=>(lX n) b.1 a.1)),(169,qP (nG (mD (rI jT.ku) (lR .i64) (mI n))))]) (rK:=qF [([0,1,0,1,1,1,1,1,1,1,1],LL),([0,0,1,1,1,1,1],LM)]) (co:=Mc [(169,QJ (nG (mD (rI jT.ku) (lR .i64) (mI n))))]) (uO:=mc [169]) (uR:=mc [])
def aaS(X:kf)(n:Nat):sP (sK X n) [0,0,1,0,0,1,0,1,1,1,1,1,1,1,1]=true:=jR
def aaT(X:kf)(n:Nat):Bh (sK X n) [0,0,1,0,0,1,0,1,1,1,1,1,1,1,1] 2 14 3 14 4 14 8 14/\aob (sK X n) [0,0,1,0,0,1,0,1,1,1,1,1,1,1,1] 10 14 12 14:=⟨⟨jR,jR,jR,jR⟩,jR,jR⟩
attribute [go_sem] aaS aaT LL LM
@[go_sem]abbrev LN(v0:Int)(o0:jT)(o1:Syntax)(r3:List Syntax)(o4:Syntax)(c3:Nat):jX:=⟨(.ptr 0 0::qA::qA::.ptr 1 0::.ptr 2 0::.mE 3 c3::.ptr 4 0::.int .i64 v0::vC (nv (nv (nv (qA::qA::[]))))),[.cells (jT.cells o0),.cells (Syntax.cells o1),.cells [.int .i64 0,.str (sb []),.int .i64 0,.lS true 0 [],.lS true 0 [],.lS true 0 [],.int .i64 0,.int .i64 0],.mE true 8 (mp Syntax.cells r3),.cells (Syntax.cells o4)],1,[]⟩
abbrev LO:=Int->jT->Syntax->(List Syntax)->Syntax->Option Te
abbrev aL2(X:kf)(n:Nat)(K:List Kt)(Z:LO):Prop:=∀v0 o0 o1 r3 o4 c3,c3=r3.length->run (sK X n) K (LN v0 o0 o1 r3 o4 c3)=Z v0 o0 o1 r3 o4
@[go_sem]abbrev LP(o0:jT)(o1:Syntax)(r3:List Syntax)(c3:Nat):jX:=⟨(.ptr 0 0::qA::qA::.ptr 1 0::.ptr 2 0::.mE 3 c3::vC (mM [])),[.cells (jT.cells o0),.cells (Syntax.cells o1),.cells [.int .i64 0,.str (sb []),.int .i64 0,.lS true 0 [],.lS true 0 [],.lS true 0 [],.int .i64 0,.int .i64 0],.mE true 8 (mp Syntax.cells r3)],1,[]⟩
abbrev LQ:=jT->Syntax->(List Syntax)->Option Te
abbrev aL3(X:kf)(n:Nat)(K:List Kt)(Z:LQ):Prop:=∀o0 o1 r3 c3,c3=r3.length->run (sK X n) K (LP o0 o1 r3 c3)=Z o0 o1 r3
def wh(X:kf)(n:Nat):LB (aL2 X n) [0,1,0,1,1,1,1,1,1,1,1] EQ:=yp
def tK(X:kf)(n:Nat):Nat->LO:=xb ((wh X n).1)
def Il(X:kf){n:Nat}:tK X n (m+1)=(wh X n).1 (tK X n m):=rfl
@[go_sem]def St(X:kf)(n:Nat)(m:Nat):=yL (wh X n) (tK X n) m
def tL(X:kf)(n:Nat):LB (aL3 X n) [0,0,1,1,1,1,1] [.qU 0,.cut [1,1,1,1,1,1],.at [1,1,1,1,1,1]]:=yp
def r7(X:kf)(n:Nat):Nat->LQ:=xb ((tL X n).1)
def By(X:kf){n:Nat}:r7 X n (m+1)=(tL X n).1 (r7 X n m):=rfl
@[go_sem]def Su(X:kf)(n:Nat)(m:Nat):=yL (tL X n) (r7 X n) m
def Ae(X:kf)(n:Nat):{B:jT->Syntax->Option Te //∀(a0:jT)(a1:Syntax),run (sK X n) [.at []] (UJ ((pS 0 (Ao (lJ Syntax.ku) pG)).enc (a0,()) (a1,())) 86 ((lm (lA jT.ku) li).enc (a0,())))=B a0 a1}:=yp
open Go.Proofs
def jZ:Nat->kf
 |0=>⟨Fu.z,Fu.z,Fu.z,Fu.z,Fu.z,Fu.z,Fu.z,Fu.z,Fu.z,Fu.z,Fu.z,Fu.z,Fu.z⟩
 |n+1=>⟨(yG (jZ n) n).1,(xJ (jZ n) n).1,(DT (jZ n) n).1,(DV (jZ n) n).1,(Ad (jZ n) n).1,(Fc (jZ n) n).1,(DW (jZ n) n).1,(BY (jZ n) n).1,(BZ (jZ n) n).1,(zb (jZ n) n).1,(DZ (jZ n) n).1,(w7 (jZ n) n).1,(Ae (jZ n) n).1⟩
def kX:jT->Option TA:=(jZ n).kX
def P2{n:Nat}:kX (n+1)=(yG (jZ n) n).1:=rfl
def qg:jT->Option Te:=(jZ n).qg
def OM{n:Nat}:qg (n+1)=(xJ (jZ n) n).1:=rfl
def tH:jT->Option Te:=(jZ n).tH
def agJ{n:Nat}:tH (n+1)=(DT (jZ n) n).1:=rfl
def tI:jT->Option Te:=(jZ n).tI
def agK{n:Nat}:tI (n+1)=(DV (jZ n) n).1:=rfl
def qw:jT->Str->Str->Option TF:=(jZ n).qw
def aaU{n:Nat}:qw (n+1)=(Ad (jZ n) n).1:=rfl
def su:jT->Option Te:=(jZ n).su
def aio{n:Nat}:su (n+1)=(Fc (jZ n) n).1:=rfl
def qa:jT->Option Te:=(jZ n).qa
def agL{n:Nat}:qa (n+1)=(DW (jZ n) n).1:=rfl
def qO:jT->Option Te:=(jZ n).qO
def aeN{n:Nat}:qO (n+1)=(BY (jZ n) n).1:=rfl
def rG:jT->Option Te:=(jZ n).rG
def aeO{n:Nat}:rG (n+1)=(BZ (jZ n) n).1:=rfl
def oW:jT->Option (T8×Ts):=(jZ n).oW
def aL4{n:Nat}:oW (n+1)=(zb (jZ n) n).1:=rfl
def tJ:jT->Option Te:=(jZ n).tJ
def agM{n:Nat}:tJ (n+1)=(DZ (jZ n) n).1:=rfl
def l7:jT->Option Te:=(jZ n).l7
def MV{n:Nat}:l7 (n+1)=(w7 (jZ n) n).1:=rfl
def rk:jT->Syntax->Option Te:=(jZ n).rk
def aaV{n:Nat}:rk (n+1)=(Ae (jZ n) n).1:=rfl
def kC{n:Nat}:(jZ n).kX=kX n/\(jZ n).qg=qg n/\(jZ n).tH=tH n/\(jZ n).tI=tI n/\(jZ n).qw=qw n/\(jZ n).su=su n/\(jZ n).qa=qa n/\(jZ n).qO=qO n/\(jZ n).rG=rG n/\(jZ n).oW=oW n/\(jZ n).tJ=tJ n/\(jZ n).l7=l7 n/\(jZ n).rk=rk n:=⟨rfl,rfl,rfl,rfl,rfl,rfl,rfl,rfl,rfl,rfl,rfl,rfl,rfl⟩
def mW:∀n:Nat,R8 fO 37 (my 0 k7) kI kI (mH (lJ Syntax.ku) k7) (yF (jZ n).kX)/\(∀(a0:jT)(r:Te),(jZ n).qg a0=some r->Kk fO 82 ((pS 0 pG).enc (a0,()) ()) ((lm (lA jT.ku) li).enc (a0,())) (fun o H'=>o=.ret (n6 ((sr (lJ Syntax.ku) pd).enc r.1 r.2))/\H'=(lm (lA jT.ku) li).enc r.1))/\(∀(a0:jT)(r:Te),(jZ n).tH a0=some r->Kk fO 127 ((pS 0 pG).enc (a0,()) ()) ((lm (lA jT.ku) li).enc (a0,())) (fun o H'=>o=.ret (n6 ((sr (lJ Syntax.ku) pd).enc r.1 r.2))/\H'=(lm (lA jT.ku) li).enc r.1))/\(∀(a0:jT)(r:Te),(jZ n).tI a0=some r->Kk fO 128 ((pS 0 pG).enc (a0,()) ()) ((lm (lA jT.ku) li).enc (a0,())) (fun o H'=>o=.ret (n6 ((sr (lJ Syntax.ku) pd).enc r.1 r.2))/\H'=(lm (lA jT.ku) li).enc r.1))/\(∀(a0:jT)(a1:Str)(a2:Str)(r:TF),(jZ n).qw a0 a1 a2=some r->Kk fO 129 ((pS 0 (Ao mb (Ao mb pG))).enc (a0,()) (a1,a2,())) ((lm (lA jT.ku) li).enc (a0,())) (fun o H'=>o=.ret (n6 ((sr (mZ mq) (sr (lJ Syntax.ku) pd)).enc r.1 r.2))/\H'=(lm (lA jT.ku) li).enc r.1))/\(∀(a0:jT)(r:Te),(jZ n).su a0=some r->Kk fO 132 ((pS 0 pG).enc (a0,()) ()) ((lm (lA jT.ku) li).enc (a0,())) (fun o H'=>o=.ret (n6 ((sr (lJ Syntax.ku) pd).enc r.1 r.2))/\H'=(lm (lA jT.ku) li).enc r.1))/\(∀(a0:jT)(r:Te),(jZ n).qa a0=some r->Kk fO 172 ((pS 0 pG).enc (a0,()) ()) ((lm (lA jT.ku) li).enc (a0,())) (fun o H'=>o=.ret (n6 ((sr (lJ Syntax.ku) pd).enc r.1 r.2))/\H'=(lm (lA jT.ku) li).enc r.1))/\(∀(a0:jT)(r:Te),(jZ n).qO a0=some r->Kk fO 202 ((pS 0 pG).enc (a0,()) ()) ((lm (lA jT.ku) li).enc (a0,())) (fun o H'=>o=.ret (n6 ((sr (lJ Syntax.ku) pd).enc r.1 r.2))/\H'=(lm (lA jT.ku) li).enc r.1))/\(∀(a0:jT)(r:Te),(jZ n).rG a0=some r->Kk fO 225 ((pS 0 pG).enc (a0,()) ()) ((lm (lA jT.ku) li).enc (a0,())) (fun o H'=>o=.ret (n6 ((sr (lJ Syntax.ku) pd).enc r.1 r.2))/\H'=(lm (lA jT.ku) li).enc r.1))/\(∀(a0:jT)(r:(T8×Ts)),(jZ n).oW a0=some r->Kk fO 249 ((pS 0 pG).enc (a0,()) ()) ((lm (lA jT.ku) li).enc (a0,())) (fun o H'=>o=.ret (n6 ((sr (mZ Syntax.row) pd).enc r.1 r.2))/\H'=(lm (lA jT.ku) li).enc r.1))/\(∀(a0:jT)(r:Te),(jZ n).tJ a0=some r->Kk fO 263 ((pS 0 pG).enc (a0,()) ()) ((lm (lA jT.ku) li).enc (a0,())) (fun o H'=>o=.ret (n6 ((sr (lJ Syntax.ku) pd).enc r.1 r.2))/\H'=(lm (lA jT.ku) li).enc r.1))/\(∀(a0:jT)(r:Te),(jZ n).l7 a0=some r->Kk fO 271 ((pS 0 pG).enc (a0,()) ()) ((lm (lA jT.ku) li).enc (a0,())) (fun o H'=>o=.ret (n6 ((sr (lJ Syntax.ku) pd).enc r.1 r.2))/\H'=(lm (lA jT.ku) li).enc r.1))/\(∀(a0:jT)(a1:Syntax)(r:Te),(jZ n).rk a0 a1=some r->Kk fO 250 ((pS 0 (Ao (lJ Syntax.ku) pG)).enc (a0,()) (a1,())) ((lm (lA jT.ku) li).enc (a0,())) (fun o H'=>o=.ret (n6 ((sr (lJ Syntax.ku) pd).enc r.1 r.2))/\H'=(lm (lA jT.ku) li).enc r.1))
 |0=>⟨fun _ _ _ h=>(by cases h),fun _ _ h=>(by cases h),fun _ _ h=>(by cases h),fun _ _ h=>(by cases h),fun _ _ _ _ h=>(by cases h),fun _ _ h=>(by cases h),fun _ _ h=>(by cases h),fun _ _ h=>(by cases h),fun _ _ h=>(by cases h),fun _ _ h=>(by cases h),fun _ _ h=>(by cases h),fun _ _ h=>(by cases h),fun _ _ _ h=>(by cases h)⟩
 |n+1=>by
  obtain⟨rO,aaW,aeP,aeQ,aL5,agN,aeR,ac6,ac7,JZ,aeS,LR,Za⟩:=mW n
  exact⟨abF (yG (jZ n) n) (gd (jW (lD (lu (p4 n))) (jW (kK (fun b a r h=>(uT n) b.1 a.1 a.2.1 r h)) (jW (kK (fun b a r h=>(aaW) b.1 r h)) j9))) ke) func37 ntmps37 results37,
   fun a0 r h=>pq (M:=ve (jZ n) n) ⟨(jW (tY (rO)) (jW (lD (lu (p4 n))) (jW (lD (pm (BR n))) (jW (kK (fun b a r h=>(l4 n) b.1 r h)) (jW (kK (fun b a r h=>(p5 n) b.1 a.1 r h)) (jW (lD (pm (nj n))) (jW (kK (fun b a r h=>(aeP) b.1 r h)) (jW (kK (fun b a r h=>(aeQ) b.1 r h)) (jW (kK (fun b a r h=>(aL5) b.1 a.1 a.2.1 r h)) (jW (ax3 (aLP n)) (jW (pg (KT n)) (jW (kK (fun b a r h=>(agN) b.1 r h)) (jW (kK (fun b a r h=>(aaq n) b.1 a.1 r h)) j9))))))))))))),(oJ (aBh (aLP n)) (oJ (pm (KT n)) ke)),mU _,nn _,oR,oS,pM,(mw (abE (rO)) qL)⟩ func82 rfl rfl (by simp only[go_sem,fS,fT,fP,fQ,fU,fV,fX,fY,fZ,fR,fW,ga]) ((lm (lA jT.ku) li).nb _ _) ntmps82 results82 (fun J hs=>rS hs) (((xJ (jZ n) n).2 a0).trans h),
   fun a0 r h=>pq (M:=zQ (jZ n) n) ⟨(jW (tY (rO)) (jW (lD (lu (p4 n))) (jW (kK (fun b a r h=>(l4 n) b.1 r h)) (jW (kK (fun b a r h=>(p5 n) b.1 a.1 r h)) (jW (lD (pm (nj n))) (jW (kK (fun b a r h=>(oz n) b.1 a.1 r h)) (jW (ax3 (aLP n)) (jW (kK (fun b a r h=>(Aw n) b.1 r h)) (jW (kK (fun b a r h=>(uu n) b.1 r h)) (jW (lD (lu (sC n))) j9)))))))))),(oJ (pm (KT n)) ke),mU _,nn _,oR,oS,pM,qe⟩ func127 rfl rfl (by simp only[go_sem,fS,fT,fP,fQ,fU,fV,fX,fY,fZ,fR,fW,ga]) ((lm (lA jT.ku) li).nb _ _) ntmps127 results127 (fun J hs=>rS hs) (((DT (jZ n) n).2 a0).trans h),
   fun a0 r h=>pq (M:=DU (jZ n) n) ⟨(jW (tY (rO)) (jW (lD (lu (p4 n))) (jW (kK (fun b a r h=>(l4 n) b.1 r h)) (jW (kK (fun b a r h=>(p5 n) b.1 a.1 r h)) (jW (lD (pm (nj n))) (jW (kK (fun b a r h=>(uu n) b.1 r h)) (jW (lD (lu (sC n))) j9))))))),ke,mU _,nn _,oR,oS,pM,(mw (abE (rO)) qL)⟩ func128 rfl rfl (by simp only[go_sem,fS,fT,fP,fQ,fU,fV,fX,fY,fZ,fR,fW,ga]) ((lm (lA jT.ku) li).nb _ _) ntmps128 results128 (fun J hs=>rS hs) (((DV (jZ n) n).2 a0).trans h),
   fun a0 a1 a2 r h=>pq (M:=Ac (jZ n) n) ⟨(jW (tY (rO)) (jW (kK (fun b a r h=>(p5 n) b.1 a.1 r h)) (jW (kK (fun b a r h=>(Aw n) b.1 r h)) (jW (kK (fun b a r h=>(uu n) b.1 r h)) j9)))),ke,mU _,nn _,oR,oS,pM,qe⟩ func129 rfl rfl (by simp only[go_sem,fS,fT,fP,fQ,fU,fV,fX,fY,fZ,fR,fW,ga]) ((lm (lA jT.ku) li).nb _ _) ntmps129 results129 (fun J hs=>rS hs) (((Ad (jZ n) n).2 a0 a1 a2).trans h),
   fun a0 r h=>pq (M:=LD (jZ n) n) ⟨(jW (lD (lu (mA n))) (jW (kK (fun b a r h=>(qu n) b.1 r h)) (jW (lD (lu (p4 n))) (jW (kK (fun b a r h=>(l4 n) b.1 r h)) (jW (kK (fun b a r h=>(uT n) b.1 a.1 a.2.1 r h)) (jW (kK (fun b a r h=>(oz n) b.1 a.1 r h)) (jW (lD (lu (sC n))) (jW (lD (lu (Ve n))) (jW (lD (lu (La n))) (jW (kK (fun b a r h=>(aeR) b.1 r h)) (jW (pg (anb n)) j9))))))))))),ke,mU _,nn _,oR,oS,pM,qe⟩ func132 rfl rfl (by simp only[go_sem,fS,fT,fP,fQ,fU,fV,fX,fY,fZ,fR,fW,ga]) ((lm (lA jT.ku) li).nb _ _) ntmps132 results132 (fun J hs=>rS hs) (((Fc (jZ n) n).2 a0).trans h),
   fun a0 r h=>pq (M:=Ja (jZ n) n) ⟨(jW (kK (fun b a r h=>(oz n) b.1 a.1 r h)) (jW (lD (lu (La n))) (jW (kK (fun b a r h=>(ac6) b.1 r h)) j9))),ke,mU _,nn _,oR,oS,pM,qe⟩ func172 rfl rfl (by simp only[go_sem,fS,fT,fP,fQ,fU,fV,fX,fY,fZ,fR,fW,ga]) ((lm (lA jT.ku) li).nb _ _) ntmps172 results172 (fun J hs=>rS hs) (((DW (jZ n) n).2 a0).trans h),
   fun a0 r h=>pq (M:=yH (jZ n) n) ⟨(jW (kK (fun b a r h=>(l4 n) b.1 r h)) (jW (lD (pm (nj n))) (jW (kK (fun b a r h=>(oz n) b.1 a.1 r h)) (jW (kK (fun b a r h=>(ac7) b.1 r h)) j9)))),ke,mU _,nn _,oR,oS,pM,(mw (Fx (lu (sC n))) qL)⟩ func202 rfl rfl (by simp only[go_sem,fS,fT,fP,fQ,fU,fV,fX,fY,fZ,fR,fW,ga]) ((lm (lA jT.ku) li).nb _ _) ntmps202 results202 (fun J hs=>rS hs) (((BY (jZ n) n).2 a0).trans h),
   fun a0 r h=>pq (M:=PZ (jZ n) n) ⟨(jW (lD (lu (mA n))) (jW (kK (fun b a r h=>(qu n) b.1 r h)) (jW (lD (lu (p4 n))) (jW (lD (pm (BR n))) (jW (kK (fun b a r h=>(l4 n) b.1 r h)) (jW (tY (OE n)) (jW (kK (fun b a r h=>(p5 n) b.1 a.1 r h)) (jW (lD (pm (nj n))) (jW (kK (fun b a r h=>(DJ n) b.1 r h)) (jW (lD (lu (sC n))) (jW (kK (fun b a r h=>(YZ n) b.1 r h)) (jW (kK (fun b a r h=>(aeB n) b.1 r h)) (jW (kK (fun b a r h=>(JZ) b.1 r h)) (jW (kK (fun b a r h=>(Za) b.1 a.1 r h)) j9)))))))))))))),ke,mU _,nn _,oR,oS,pM,qe⟩ func225 rfl rfl (by simp only[go_sem,fS,fT,fP,fQ,fU,fV,fX,fY,fZ,fR,fW,ga]) ((lm (lA jT.ku) li).nb _ _) ntmps225 results225 (fun J hs=>rS hs) (((BZ (jZ n) n).2 a0).trans h),
   fun a0 r h=>pq (M:=DY (jZ n) n) ⟨(jW (kK (fun b a r h=>(l4 n) b.1 r h)) (jW (lD (pm (nj n))) (jW (kK (fun b a r h=>(oz n) b.1 a.1 r h)) (jW (kK (fun b a r h=>(aeS) b.1 r h)) j9)))),ke,mU _,nn _,oR,oS,pM,qe⟩ func249 rfl rfl (by simp only[go_sem,fS,fT,fP,fQ,fU,fV,fX,fY,fZ,fR,fW,ga]) ((lm (lA jT.ku) li).nb _ _) ntmps249 results249 (fun J hs=>rS hs) (((zb (jZ n) n).2 a0).trans h),
   fun a0 r h=>pq (M:=Jb (jZ n) n) ⟨(jW (kK (fun b a r h=>(l4 n) b.1 r h)) (jW (lD (pm (nj n))) (jW (kK (fun b a r h=>(oz n) b.1 a.1 r h)) (jW (kK (fun b a r h=>(LR) b.1 r h)) j9)))),ke,mU _,nn _,oR,oS,pM,qe⟩ func263 rfl rfl (by simp only[go_sem,fS,fT,fP,fQ,fU,fV,fX,fY,fZ,fR,fW,ga]) ((lm (lA jT.ku) li).nb _ _) ntmps263 results263 (fun J hs=>rS hs) (((DZ (jZ n) n).2 a0).trans h),
   fun a0 r h=>pq (M:=mh (jZ n) n) ⟨(jW (tY (rO)) (jW (lD (lu (mA n))) (jW (kK (fun b a r h=>(qu n) b.1 r h)) (jW (lD (lu (p4 n))) (jW (kK (fun b a r h=>(l4 n) b.1 r h)) (jW (kK (fun b a r h=>(uT n) b.1 a.1 a.2.1 r h)) (jW (kK (fun b a r h=>(p5 n) b.1 a.1 r h)) (jW (lD (pm (nj n))) (jW (kK (fun b a r h=>(oz n) b.1 a.1 r h)) (jW (kK (fun b a r h=>(zM n) b.1 r h)) (jW (kK (fun b a r h=>(Aw n) b.1 r h)) (jW (kK (fun b a r h=>(uu n) b.1 r h)) (jW (lD (lu (sC n))) (jW (kK (fun b a r h=>(JZ) b.1 r h)) (jW (kK (fun b a r h=>(LR) b.1 r h)) (jW (pg (amV n)) j9)))))))))))))))),ke,mU _,mU _,oR,oS,pM,(mw (abE (OE n)) qL)⟩ func271 rfl rfl (by simp only[go_sem,fS,fT,fP,fQ,fU,fV,fX,fY,fZ,fR,fW,ga]) ((lm (lA jT.ku) li).nb _ _) ntmps271 results271 (fun J hs=>rS hs) (((w7 (jZ n) n).2 a0).trans h),
   fun a0 a1 r h=>pq (M:=sK (jZ n) n) ⟨(jW (tY (rO)) (jW (kK (fun b a r h=>(qu n) b.1 r h)) (jW (kK (fun b a r h=>(l4 n) b.1 r h)) (jW (kK (fun b a r h=>(p5 n) b.1 a.1 r h)) (jW (lD (pm (nj n))) (jW (kK (fun b a r h=>(oz n) b.1 a.1 r h)) (jW (lD (lu (sC n))) j9))))))),ke,mU _,nn _,oR,oS,pM,(mw (Fx (lu (sC n))) qL)⟩ func250 rfl rfl (by simp only[go_sem,fS,fT,fP,fQ,fU,fV,fX,fY,fZ,fR,fW,ga]) ((lm (lA jT.ku) li).nb _ _) ntmps250 results250 (fun J hs=>rS hs) (((Ae (jZ n) n).2 a0 a1).trans h)⟩
def ac8:R8 fO 37 (my 0 k7) kI kI (mH (lJ Syntax.ku) k7) (yF (kX n)):=(mW n).1
def arY:∀(a0:jT)(r:Te),qg n a0=some r->Kk fO 82 ((pS 0 pG).enc (a0,()) ()) ((lm (lA jT.ku) li).enc (a0,())) (fun o H'=>o=.ret (n6 ((sr (lJ Syntax.ku) pd).enc r.1 r.2))/\H'=(lm (lA jT.ku) li).enc r.1):=(mW n).2.1
def avi:∀(a0:jT)(r:Te),tH n a0=some r->Kk fO 127 ((pS 0 pG).enc (a0,()) ()) ((lm (lA jT.ku) li).enc (a0,())) (fun o H'=>o=.ret (n6 ((sr (lJ Syntax.ku) pd).enc r.1 r.2))/\H'=(lm (lA jT.ku) li).enc r.1):=(mW n).2.2.1
def avj:∀(a0:jT)(r:Te),tI n a0=some r->Kk fO 128 ((pS 0 pG).enc (a0,()) ()) ((lm (lA jT.ku) li).enc (a0,())) (fun o H'=>o=.ret (n6 ((sr (lJ Syntax.ku) pd).enc r.1 r.2))/\H'=(lm (lA jT.ku) li).enc r.1):=(mW n).2.2.2.1
def arj:∀(a0:jT)(a1:Str)(a2:Str)(r:TF),qw n a0 a1 a2=some r->Kk fO 129 ((pS 0 (Ao mb (Ao mb pG))).enc (a0,()) (a1,a2,())) ((lm (lA jT.ku) li).enc (a0,())) (fun o H'=>o=.ret (n6 ((sr (mZ mq) (sr (lJ Syntax.ku) pd)).enc r.1 r.2))/\H'=(lm (lA jT.ku) li).enc r.1):=(mW n).2.2.2.2.1
def aw0:∀(a0:jT)(r:Te),su n a0=some r->Kk fO 132 ((pS 0 pG).enc (a0,()) ()) ((lm (lA jT.ku) li).enc (a0,())) (fun o H'=>o=.ret (n6 ((sr (lJ Syntax.ku) pd).enc r.1 r.2))/\H'=(lm (lA jT.ku) li).enc r.1):=(mW n).2.2.2.2.2.1
def avk:∀(a0:jT)(r:Te),qa n a0=some r->Kk fO 172 ((pS 0 pG).enc (a0,()) ()) ((lm (lA jT.ku) li).enc (a0,())) (fun o H'=>o=.ret (n6 ((sr (lJ Syntax.ku) pd).enc r.1 r.2))/\H'=(lm (lA jT.ku) li).enc r.1):=(mW n).2.2.2.2.2.2.1
def aud:∀(a0:jT)(r:Te),qO n a0=some r->Kk fO 202 ((pS 0 pG).enc (a0,()) ()) ((lm (lA jT.ku) li).enc (a0,())) (fun o H'=>o=.ret (n6 ((sr (lJ Syntax.ku) pd).enc r.1 r.2))/\H'=(lm (lA jT.ku) li).enc r.1):=(mW n).2.2.2.2.2.2.2.1
def aue:∀(a0:jT)(r:Te),rG n a0=some r->Kk fO 225 ((pS 0 pG).enc (a0,()) ()) ((lm (lA jT.ku) li).enc (a0,())) (fun o H'=>o=.ret (n6 ((sr (lJ Syntax.ku) pd).enc r.1 r.2))/\H'=(lm (lA jT.ku) li).enc r.1):=(mW n).2.2.2.2.2.2.2.2.1
def aps:∀(a0:jT)(r:(T8×Ts)),oW n a0=some r->Kk fO 249 ((pS 0 pG).enc (a0,()) ()) ((lm (lA jT.ku) li).enc (a0,())) (fun o H'=>o=.ret (n6 ((sr (mZ Syntax.row) pd).enc r.1 r.2))/\H'=(lm (lA jT.ku) li).enc r.1):=(mW n).2.2.2.2.2.2.2.2.2.1
def avl:∀(a0:jT)(r:Te),tJ n a0=some r->Kk fO 263 ((pS 0 pG).enc (a0,()) ()) ((lm (lA jT.ku) li).enc (a0,())) (fun o H'=>o=.ret (n6 ((sr (lJ Syntax.ku) pd).enc r.1 r.2))/\H'=(lm (lA jT.ku) li).enc r.1):=(mW n).2.2.2.2.2.2.2.2.2.2.1
def ark:∀(a0:jT)(r:Te),l7 n a0=some r->Kk fO 271 ((pS 0 pG).enc (a0,()) ()) ((lm (lA jT.ku) li).enc (a0,())) (fun o H'=>o=.ret (n6 ((sr (lJ Syntax.ku) pd).enc r.1 r.2))/\H'=(lm (lA jT.ku) li).enc r.1):=(mW n).2.2.2.2.2.2.2.2.2.2.2.1
def arl:∀(a0:jT)(a1:Syntax)(r:Te),rk n a0 a1=some r->Kk fO 250 ((pS 0 (Ao (lJ Syntax.ku) pG)).enc (a0,()) (a1,())) ((lm (lA jT.ku) li).enc (a0,())) (fun o H'=>o=.ret (n6 ((sr (lJ Syntax.ku) pd).enc r.1 r.2))/\H'=(lm (lA jT.ku) li).enc r.1):=(mW n).2.2.2.2.2.2.2.2.2.2.2.2
open Go.Proofs
@[go_sem]def uv:wH:=⟨[],[],(zK::zK::zA::zA::zK::nf (nf (zA::zA::[]))),[oT jU.ku,oC [zK],oC [zK],oA j7.row],none,none⟩
@[go_sem]def oP:=(my 0 (alF 273 (vlP 1 (vlP 2 vlN)) k7))
@[go_sem]def lc:=(EY (VP (alC jU.ku 6 k7)) (EY (VP (alA 3 k7)) (EY (VP (my 0 k7)) (EY (ogA true j7.row) Fw))))
@[go_sem]abbrev oZ(F:jU->Tk->Option Tz)(b:(Td×(Unit×(Unit×(Tk×Unit)))))(a:(Unit×Unit)):=F b.1.1 b.2.2.2.1
@[go_sem]def uI(F:jU->Tk->Option Tz):=wI true [.arg 0 [],.arg 1 [0],.arg 1 [1],.Ci 1 0 []] lc oP lc k7 lc j8 (oZ F)
@[reducible] def uJ:kR Tz:=nX fO f177 n (qI fO [] [] [0,1,2,3] 4 lc k7) (cl:=ni [(122,nu [0] (lm (lA jU.ku) li) (pS 0 (Ao mb pG)) (lm (lA jU.ku) li) (sr nk pd) (fun(b:Td) a=>(l6 n) b.1 a.1))]) (rK:=qF [([0,1],uv)]) (pT:=qJ [] [0,1,2,3] 4 lc j8) (cp:=Aj [(72,lV (lN n)),(273,Ik (DR n))]) (wF:=mc [72,273])
@[go_sem]abbrev uw(v0:Int)(o0:jU)(r3:List j7)(c3:Nat):jX:=⟨(.ptr 0 0::.func (.func 273) [] [.ptr 1 0,.ptr 2 0]::qA::qA::.int .i64 v0::nv (nv (qA::qA::[]))),[.cells (jU.cells o0),.cells [.mE 3 c3],.cells [.ptr 0 0],.mE true 2 (mp j7.cells r3)],4,[]⟩
abbrev ux:=Int->jU->Tk->Option Tz
abbrev Bz(K:List Kt)(Z:ux):Prop:=∀v0 o0 r3 c3,c3=r3.length->run (uJ n) K (uw v0 o0 r3 c3)=Z v0 o0 r3
def nC:LB (Bz n) [0,1] [.qU 0]:=yp
def nD:Nat->ux:=xb ((nC n).1)
def tW{n:Nat}:nD n (m+1)=(nC n).1 (nD n m):=rfl
@[go_sem]def Ak(m:Nat):=yL (nC n) (nD n) m
def qY:SX (uJ n) oP lc 15 oZ:=Al
def rJ:=fu fun n=>(qY n).1
def BA:∀n:Nat,sV fO 177 oP lc true lc k7 lc j8 (oZ (rJ n)):=Wa fun n=>Dk (qY n) (gd (jW (kK (fun b a r h=>(mJ n) b.1 a.1 r h)) j9) ke (p:=(kz (kS (mV n)) (kz (kS (Sq n)) lT)))) func177 ntmps177 results177
@[reducible] def Xd:kR TK:=nX fO f164 n (aEQ (QH [(198,Mf [.arg 0 [],.arg 1 [],.arg 2 [],.arg 3 [],.Ci 0 0 [],.Ci 4 0 [],.Ci 5 0 [],.Ci 5 1 [],.Ci 5 2 []] kx (my 0 (my 1 (my 2 (my 3 k7)))) kx k7 (fun(b:Ti)(a:Unit)=>(yw n) b.2.1.1 b.2.2.1.1 b.2.2.2.1.1 b.2.2.2.2.1.1 b.2.2.2.2.1.2.1 b.2.2.2.2.2.1.1 b.2.2.2.2.2.2.1 b.2.2.2.2.2.2.2.1 b.2.2.2.2.2.2.2.2.1))]) (QH [(198,Mf [.arg 0 [],.arg 1 [],.arg 2 [],.arg 3 [],.Ci 0 0 [],.Ci 4 0 [],.Ci 5 0 [],.Ci 5 1 [],.Ci 5 2 []] kx tD kx k7 (fun(b:Ti)(a:(Unit×Unit))=>(wv n) a.1 b.2.1.1 b.2.2.1.1 b.2.2.2.1.1 b.2.2.2.2.1.1 b.2.2.2.2.1.2.1 b.2.2.2.2.2.1.1 b.2.2.2.2.2.2.1 b.2.2.2.2.2.2.2.1 b.2.2.2.2.2.2.2.2.1))]) fO [.cell 4 29,.cell 5 3,.cell 6 30] (ty3 (lJ Syntax.ku) (lR .i64) (lR .i64))) (pT:=ayf (QH [(198,Mf [.arg 0 [],.arg 1 [],.arg 2 [],.arg 3 [],.Ci 0 0 [],.Ci 4 0 [],.Ci 5 0 [],.Ci 5 1 [],.Ci 5 2 []] kx (my 0 (my 1 (my 2 (my 3 k7)))) kx k7 (fun(b:Ti)(a:Unit)=>(yw n) b.2.1.1 b.2.2.1.1 b.2.2.2.1.1 b.2.2.2.2.1.1 b.2.2.2.2.1.2.1 b.2.2.2.2.2.1.1 b.2.2.2.2.2.2.1 b.2.2.2.2.2.2.2.1 b.2.2.2.2.2.2.2.2.1))]) (QH [(198,Mf [.arg 0 [],.arg 1 [],.arg 2 [],.arg 3 [],.Ci 0 0 [],.Ci 4 0 [],.Ci 5 0 [],.Ci 5 1 [],.Ci 5 2 []] kx tD kx k7 (fun(b:Ti)(a:(Unit×Unit))=>(wv n) a.1 b.2.1.1 b.2.2.1.1 b.2.2.2.1.1 b.2.2.2.2.1.1 b.2.2.2.2.1.2.1 b.2.2.2.2.2.1.1 b.2.2.2.2.2.2.1 b.2.2.2.2.2.2.2.1 b.2.2.2.2.2.2.2.2.1))]) fO [.cell 4 29,.cell 5 3,.cell 6 30] (ty3 (lJ Syntax.ku) (lR .i64) (lR .i64))) (cp:=Aj [(197,Rx (GL n)),(199,yU (nQ n))]) (wF:=mc [197,199])
def Np:{B:(List jV)->(List Syntax)->Option TK //∀(a0:(List jV))(a1:(List Syntax)),run (Xd n) [.at []] (UJ [(mZ jV.row).enc a0,(mZ Syntax.row).enc a1] 42)=B a0 a1}:=yp
def wi:=fu fun n=>(Np n).1
def aip:∀(n:Nat)(a0:(List jV))(a1:(List Syntax))(r:TK),wi n a0 a1=some r->Ku fO 164 [(mZ jV.row).enc a0,(mZ Syntax.row).enc a1] (fun v=>v=(ty3 (lJ Syntax.ku) (lR .i64) (lR .i64)).enc r)
 |0,_,_,_,h=>by cases h
 |n+1,a0,a1,r,h=>by
  exact atL (M:=Xd n) (t:=(ty3 (lJ Syntax.ku) (lR .i64) (lR .i64))) (cr:=(QH [(198,Mf [.arg 0 [],.arg 1 [],.arg 2 [],.arg 3 [],.Ci 0 0 [],.Ci 4 0 [],.Ci 5 0 [],.Ci 5 1 [],.Ci 5 2 []] kx (my 0 (my 1 (my 2 (my 3 k7)))) kx k7 (fun(b:Ti)(a:Unit)=>(yw n) b.2.1.1 b.2.2.1.1 b.2.2.2.1.1 b.2.2.2.2.1.1 b.2.2.2.2.1.2.1 b.2.2.2.2.2.1.1 b.2.2.2.2.2.2.1 b.2.2.2.2.2.2.2.1 b.2.2.2.2.2.2.2.2.1))])) (cp:=(QH [(198,Mf [.arg 0 [],.arg 1 [],.arg 2 [],.arg 3 [],.Ci 0 0 [],.Ci 4 0 [],.Ci 5 0 [],.Ci 5 1 [],.Ci 5 2 []] kx tD kx k7 (fun(b:Ti)(a:(Unit×Unit))=>(wv n) a.1 b.2.1.1 b.2.2.1.1 b.2.2.2.1.1 b.2.2.2.2.1.1 b.2.2.2.2.1.2.1 b.2.2.2.2.2.1.1 b.2.2.2.2.2.2.1 b.2.2.2.2.2.2.2.1 b.2.2.2.2.2.2.2.2.1))])) ⟨j9,ke,mU _,nn _,oR,oS,(kz (kS (aeG n)) (kz (kS (WZ n)) lT)),qe⟩ (Kz (V9 aiY (fun _ _ _ _=>rfl) (jR) (fun b a r h=>(Yh n) b.2.1.1 b.2.2.1.1 b.2.2.2.1.1 b.2.2.2.2.1.1 b.2.2.2.2.1.2.1 b.2.2.2.2.2.1.1 b.2.2.2.2.2.2.1 b.2.2.2.2.2.2.2.1 b.2.2.2.2.2.2.2.2.1 r h)) N7) (Kz (V9 aiZ (fun _ _ _ _=>rfl) (jR) (fun b a r h=>(Yi n) a.1 b.2.1.1 b.2.2.1.1 b.2.2.2.1.1 b.2.2.2.2.1.1 b.2.2.2.2.1.2.1 b.2.2.2.2.2.1.1 b.2.2.2.2.2.2.1 b.2.2.2.2.2.2.2.1 b.2.2.2.2.2.2.2.2.1 r h)) N7) func164 rfl rfl ⟨(mZ jV.row).nb 0 _,(mZ Syntax.row).nb 0 _,trivial⟩ ntmps164 results164 rfl rfl (((Np n).2 a0 a1).trans h)
open Go.Proofs
@[go_sem]abbrev ze(F:jU->Option TY)(b:T6)(a:Unit):=F b.1.1
@[go_sem]def LS(F:jU->Option TY):=wI true [.arg 0 []] jS (my 0 k7) jS (mH (mZ j7.row) k7) jS j8 (ze F)
@[reducible] def Zb:kR TY:=nX fO f267 n (qI fO [.tmp 2] [] [0] 1 jS (mH (mZ j7.row) k7)) (cl:=ni [(122,nu [0] (lm (lA jU.ku) li) (pS 0 (Ao mb pG)) (lm (lA jU.ku) li) (sr nk pd) (fun(b:Td) a=>(l6 n) b.1 a.1))]) (cut:=amN [] [([1,1,1],2,0,2,true)]) (pT:=qJ [] [0] 1 jS j8) (cp:=Aj [(60,oV (mQ n)),(177,uI (rJ n))]) (wF:=mc [60,177])
def D0:SX (Zb n) (my 0 k7) jS 19 ze:=Al
def A7:=fu fun n=>(D0 n).1
def Xe:∀n:Nat,sV fO 267 (my 0 k7) jS true jS (mH (mZ j7.row) k7) jS j8 (ze (A7 n)):=Wa fun n=>Dk (D0 n) (gdM (jW (kK (fun b a r h=>(mJ n) b.1 a.1 r h)) j9) ke (p:=(kz (kS (pH n)) (kz (kS (BA n)) lT)))) func267 ntmps267 results267
@[reducible] def aiq:kR TK:=nX fO f15 n (nT fO [.cell 4 29,.tmp 5,.tmp 6] (ty3 (lJ Syntax.ku) (lR .i64) (lR .i64))) (cl:=ni [(37,sD (kX n)),(38,qP (nG (mD (rI jT.ku) (lJ kH.ku) (mi n)))),(39,nu [0] (lm (lA jT.ku) li) (pS 0 pG) (lm (lA jT.ku) li) pd (fun(b:T8) a=>(oH n) b.1))]) (cp:=Aj [(36,acX (Qk n))]) (wF:=mc [36]) (uO:=mc []) (uR:=mc [])
@[go_sem]def arm:sP (aiq n) [0,0,1,0,1,1,1,1,1,1]=true:=jR
def Zd:SC2 (aiq n) mb (mZ jV.row) 52:=yp
def Ze:=fu fun n=>(Zd n).1
def aoG:∀n:Nat,Gx fO 15 mb (mZ jV.row) (ty3 (lJ Syntax.ku) (lR .i64) (lR .i64)) (Ze n):=IT fun n=>IS (Zd n) (gd (jW (tY (ac8 n)) (jW (lD (lu (mA n))) (jW (kK (fun b a r h=>(qu n) b.1 r h)) j9))) ke (p:=(kz (kS (ak8 n)) lT))) func15 ntmps15 results15
open Go.Proofs
@[go_sem]abbrev kY(F:jU->Option Tc)(b:T6)(a:Unit):=F b.1.1
@[go_sem]def mR(F:jU->Option Tc):=wI true [.arg 0 []] jS (my 0 k7) jS (mH (lJ Syntax.ku) k7) jS j8 (kY F)
@[go_sem]abbrev pR(F:Int->jU->Option Tc)(b:T6)(a:(Int×Unit)):=F a.1 b.1.1
@[go_sem]def B0(F:Int->jU->Option Tc):=wI true [.arg 0 []] jS (my 0 (mH (lR .i64) k7)) jS (mH (lJ Syntax.ku) k7) jS j8 (pR F)
@[go_sem]abbrev tM(F:Str->Str->jU->Option Tv)(b:T6)(a:(Str×(Str×Unit))):=F a.1 a.2.1 b.1.1
@[go_sem]def LU(F:Str->Str->jU->Option Tv):=wI true [.arg 0 []] jS (my 0 (mH mb (mH mb k7))) jS (mH (mZ kg.row) k7) jS j8 (tM F)
@[go_sem]abbrev wj(F:Syntax->jU->Option Tc)(b:T6)(a:(Syntax×Unit)):=F a.1 b.1.1
@[go_sem]def LV(F:Syntax->jU->Option Tc):=wI true [.arg 0 []] jS (my 0 (mH (lJ Syntax.ku) k7)) jS (mH (lJ Syntax.ku) k7) jS j8 (wj F)
@[go_sem]def kN:=(EY (VP (alC jU.ku 6 k7)) (EY (VP (alC Syntax.ku 8 k7)) Fw))
@[go_sem]abbrev oX(F:jU->Syntax->Option Tg)(b:(Td×((Syntax×Unit)×Unit)))(a:Unit):=F b.1.1 b.2.1.1
@[go_sem]def xK(F:jU->Syntax->Option Tg):=wI true [.arg 0 [],.arg 1 []] kN (my 0 (my 1 k7)) kN k7 kN j8 (oX F)
@[go_sem]abbrev vg(F:jU->Option TN)(b:T6)(a:Unit):=F b.1.1
@[go_sem]def CW(F:jU->Option TN):=wI true [.arg 0 []] jS (my 0 k7) jS (mH (mZ Syntax.row) k7) jS j8 (vg F)
@[go_sem]def sB:=(my 0 (mH (lJ Syntax.ku) (mH (mZ kg.row) (mH mb k7))))
@[go_sem]abbrev s8(F:Syntax->TE->Str->jU->Option Tc)(b:T6)(a:(Syntax×(TE×(Str×Unit)))):=F a.1 a.2.1 a.2.2.1 b.1.1
@[go_sem]def Xf(F:Syntax->TE->Str->jU->Option Tc):=wI true [.arg 0 []] jS sB jS (mH (lJ Syntax.ku) k7) jS j8 (s8 F)
structure j6 where
 kL:jU->Option Tc
 sR:Int->jU->Option Tc
 n9:Str->Str->jU->Option Tv
 sS:Int->jU->Option Tc
 rn:Int->jU->Option Tc
 rC:jU->Option Tc
 pN:jU->Option Tc
 rH:jU->Option Tc
 qh:jU->Option Tc
 qx:jU->Option Tc
 p9:Syntax->jU->Option Tc
 r9:jU->Syntax->Option Tg
 pI:jU->Option TN
 n5:jU->Option Tc
 lF:jU->Option Tc
 qy:jU->Syntax->Option Tg
 rq:jU->Syntax->Option Tg
 pJ:Syntax->TE->Str->jU->Option Tc
end Go.Abs
end
