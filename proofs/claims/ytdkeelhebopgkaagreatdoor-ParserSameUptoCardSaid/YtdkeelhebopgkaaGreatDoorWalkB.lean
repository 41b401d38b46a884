/- A part of the proof: what the functions compute. -/
import Derived.Test.YtdkeelhebopgkaaGreatDoorDataA
import Derived.Test.YtdkeelhebopgkaaGreatDoorWalkA
import Derived.Test.YtdkeelhebopgkaaGreatDoorExtA
set_option linter.all false
open Go.Proofs.Tryz renaming prog → fC
open Nat renaming reduceLeDiff → fD,reduceEqDiff → fE,reduceAdd → fH,reduceSub → fI,reduceBEq → fJ,reduceMul → fK,reduceLT → fM
open Int renaming reduceToNat → fF,reduceBEq → fL,reduceLE → fN,reduceLT → fO,reduceEq → fP
open Option renaming getD_some → fG
open Go.Abs.AV renaming any → qA
noncomputable section
open Go.Proofs.Tryz
namespace Go.Abs
variable {m:Nat}
variable (n:Nat)
open Go.Proofs
attribute [go_sem] f223 f25 f52 f42 f20 f45 f185 f155 f154 f72 f57 f19 f44 f123 f122 f114 f149 f60 f119 f141 f179 f138 f35 f281 f177 f288 f69 f118 f242 f30 f71 f274 f219 f12 f33 f273 f268 f197 f164 f267 f34
set_option maxRecDepth 100000
set_option maxHeartbeats 4000000
def F3:yd:=⟨[],[],(mN (zK::mN (zA::zK::zK::mN (zA::zA::zK::wv (mN (zK::zK::zK::mN (mN (zA::zA::zA::[])))))))),[oC [zK,zT (nP Syntax.row),zK],oC [zK,zK,zK,zK],oM (lM jY.kH),oM (lM jY.kH),oK,oD,oK,oD,oA Syntax.row,oC [zK,zK,zK,zK,zK,zT (nP Syntax.row),zK,zK]],none,none⟩
def F4:yd:=⟨[],[],(mN (zK::mN (zA::zK::zK::mN (zA::zA::zK::wv (mN (zL Syntax.row::zK::zK::mN (mN (zA::zA::zA::[])))))))),[oC [zK,zT (nP Syntax.row),zK],oC [zK,zK,zK,zK],oM (lM jY.kH),oM (lM jY.kH),oK,oD,oK,oC [zK,zK,zK,zK,zK,zT (nP Syntax.row),zK,zK]],(some 87),none⟩
def F5:yd:=⟨[],[],(zK::zA::zK::zK::zK::zA::zK::zA::zA::zA::zK::zK::mN (mN (mN (zT (nP nO)::zK::zK::wv (mN (mN (zA::zA::[]))))))),[oC [zK,zT (nP Syntax.row),zK],oC [zK,zK,zK,zK],oM (lM jY.kH),oM (lM jY.kH),oK,oT jY.kH,oK,oD,oA Syntax.row],none,none⟩
def F6:yd:=⟨[],[],(zK::zA::zK::zL Syntax.row::zK::zA::zK::zA::zA::zA::zK::zK::mN (mN (mN (zT (nP nO)::zK::zK::wv (mN (mN (zA::zA::[]))))))),[oC [zK,zT (nP Syntax.row),zK],oC [zK,zK,zK,zK],oM (lM jY.kH),oM (lM jY.kH),oK,oT jY.kH,oK],(some 3),none⟩
@[reducible] def rC(X:kA)(n:Nat):kU To:=oI fC f223 n (py fC [.cell 10 29] [] [0,1,2,3,4] 5 kv (mh (lM Syntax.kH) kP)) (cl:=nR [(221,zi (tR n)),(222,uC (lM jY.kH) (nq .i64) (nq .i64) (EM n))]) (rG:=q9 [([0,1,0,1,1],F6),([0,1,0,1,1],F5),([0,1,0,1,1,1,1],F4),([0,1,0,1,1,1,1],F3)]) (oz:=pz [] [0,1,2,3,4] 5 kv (mh (Oq 202 Vk) kP)) (cp:=yj [(199,wW X.mG)]) (uR:=mg [199]) (vf:=mg []) (vJ:=mg [])
def RT(X:kA)(n:Nat):tM (rC X n) [0,1,1,1,0,0,1,1,0,0,1,0,1,1]=true:=jV
attribute [go_sem] RT F3 F4 F5 F6
abbrev F7(v0 v1 v2 v3:Int)(v4:List Syntax)(v5 v6:Int)(r2 r3:List (Str×jY))(r4:List (Str×Bool))(r8:List Syntax)(v11:Int)(v12:Str)(v13:List Syntax)(v14 v15:Int)(c8:Nat):jZ:=⟨(mY (.int .i64 v0::mY (qA:: .ptr 6 0:: .int .i64 v1::mY (qA::qA:: .ptr 9 0::wu (mY (.acc 8 c8:: .int .i64 v2:: .int .i64 v3::mY (mY (qA::qA::qA::[])))))))),[.cells [.ptr 1 0,.mb false 8 (mp Syntax.cells v4),.int .i64 v5],.cells [.map 2,.map 3,.map 4,.int .i64 v6],.map (mp (KK (lM jY.kH)) r2),.map (mp (KK (lM jY.kH)) r3),.map (mp DG r4),.dead,.cells [.int .i64 0,.str (sb []),.int .i64 0,.mb true 0 [],.mb true 0 [],.mb true 0 [],.int .i64 0,.int .i64 0],.dead,.acc true 8 (mp Syntax.cells r8),.cells [.int .i64 v11,.str (sb v12),.int .i64 0,.mb true 0 [],.mb true 0 [],.mb false 8 (mp Syntax.cells v13),.int .i64 v14,.int .i64 v15]],5,[]⟩
abbrev F8:=Int->Int->Int->Int->(List Syntax)->Int->Int->Td->Td->T9->(List Syntax)->Int->Str->(List Syntax)->Int->Int->Option To
abbrev Qg(X:kA)(n:Nat)(K:List Kt)(Z:F8):Prop:= ∀v0 v1 v2 v3 v4 v5 v6 r2 r3 r4 r8 v11 v12 v13 v14 v15 c8,c8=r8.length->run (rC X n) K (F7 v0 v1 v2 v3 v4 v5 v6 r2 r3 r4 r8 v11 v12 v13 v14 v15 c8)=Z v0 v1 v2 v3 v4 v5 v6 r2 r3 r4 r8 v11 v12 v13 v14 v15
abbrev F9(v0 v1:Int)(v2:List Syntax)(v3 v4:Int)(v5:List Syntax)(v6 v7:Int)(r2 r3:List (Str×jY))(r4:List (Str×Bool))(v11:Int)(v12:Str)(v13:List Syntax)(v14 v15:Int):jZ:=⟨(mY (.int .i64 v0::mY (qA:: .ptr 6 0:: .int .i64 v1::mY (qA::qA:: .ptr 7 0::wu (mY (.mb true 8 (mp Syntax.cells v2):: .int .i64 v3:: .int .i64 v4::mY (mY (qA::qA::qA::[])))))))),[.cells [.ptr 1 0,.mb false 8 (mp Syntax.cells v5),.int .i64 v6],.cells [.map 2,.map 3,.map 4,.int .i64 v7],.map (mp (KK (lM jY.kH)) r2),.map (mp (KK (lM jY.kH)) r3),.map (mp DG r4),.dead,.cells [.int .i64 0,.str (sb []),.int .i64 0,.mb true 0 [],.mb true 0 [],.mb true 0 [],.int .i64 0,.int .i64 0],.cells [.int .i64 v11,.str (sb v12),.int .i64 0,.mb true 0 [],.mb true 0 [],.mb false 8 (mp Syntax.cells v13),.int .i64 v14,.int .i64 v15]],5,[]⟩
abbrev Ga:=Int->Int->(List Syntax)->Int->Int->(List Syntax)->Int->Int->Td->Td->T9->Int->Str->(List Syntax)->Int->Int->Option To
abbrev Qh(X:kA)(n:Nat)(K:List Kt)(Z:Ga):Prop:= ∀v0 v1 v2 v3 v4 v5 v6 v7 r2 r3 r4 v11 v12 v13 v14 v15,run (rC X n) K (F9 v0 v1 v2 v3 v4 v5 v6 v7 r2 r3 r4 v11 v12 v13 v14 v15)=Z v0 v1 v2 v3 v4 v5 v6 v7 r2 r3 r4 v11 v12 v13 v14 v15
abbrev Gb(v0 v1 v2:Int)(v3:List Str)(v4 v5:Int)(v6:List Syntax)(v7 v8:Int)(r2 r3:List (Str×jY))(r4:List (Str×Bool))(o5:jY)(r8:List Syntax)(c8:Nat):jZ:=⟨(.ptr 0 0::qA:: .int .i64 v0:: .acc 8 c8:: .int .i64 v1::qA:: .ptr 5 0::qA::qA::qA:: .ptr 6 0:: .int .i64 v2::mY (mY (mY (.mb false 1 (mp nB v3):: .int .i64 v4:: .int .i64 v5::wu (mY (mY (qA::qA::[]))))))),[.cells [.ptr 1 0,.mb false 8 (mp Syntax.cells v6),.int .i64 v7],.cells [.map 2,.map 3,.map 4,.int .i64 v8],.map (mp (KK (lM jY.kH)) r2),.map (mp (KK (lM jY.kH)) r3),.map (mp DG r4),.cells (jY.cells o5),.cells [.int .i64 0,.str (sb []),.int .i64 0,.mb true 0 [],.mb true 0 [],.mb true 0 [],.int .i64 0,.int .i64 0],.dead,.acc true 8 (mp Syntax.cells r8)],5,[]⟩
abbrev Gc:=Int->Int->Int->(List Str)->Int->Int->(List Syntax)->Int->Int->Td->Td->T9->jY->(List Syntax)->Option To
abbrev Qi(X:kA)(n:Nat)(K:List Kt)(Z:Gc):Prop:= ∀v0 v1 v2 v3 v4 v5 v6 v7 v8 r2 r3 r4 o5 r8 c8,c8=r8.length->run (rC X n) K (Gb v0 v1 v2 v3 v4 v5 v6 v7 v8 r2 r3 r4 o5 r8 c8)=Z v0 v1 v2 v3 v4 v5 v6 v7 v8 r2 r3 r4 o5 r8
abbrev Gd(v0:Int)(v1:List Syntax)(v2 v3:Int)(v4:List Str)(v5 v6:Int)(v7:List Syntax)(v8 v9:Int)(r2 r3:List (Str×jY))(r4:List (Str×Bool))(o5:jY):jZ:=⟨(.ptr 0 0::qA:: .int .i64 v0:: .mb true 8 (mp Syntax.cells v1):: .int .i64 v2::qA:: .ptr 5 0::qA::qA::qA:: .ptr 6 0:: .int .i64 v3::mY (mY (mY (.mb false 1 (mp nB v4):: .int .i64 v5:: .int .i64 v6::wu (mY (mY (qA::qA::[]))))))),[.cells [.ptr 1 0,.mb false 8 (mp Syntax.cells v7),.int .i64 v8],.cells [.map 2,.map 3,.map 4,.int .i64 v9],.map (mp (KK (lM jY.kH)) r2),.map (mp (KK (lM jY.kH)) r3),.map (mp DG r4),.cells (jY.cells o5),.cells [.int .i64 0,.str (sb []),.int .i64 0,.mb true 0 [],.mb true 0 [],.mb true 0 [],.int .i64 0,.int .i64 0]],5,[]⟩
abbrev vT:=Int->(List Syntax)->Int->Int->(List Str)->Int->Int->(List Syntax)->Int->Int->Td->Td->T9->jY->Option To
abbrev vU(X:kA)(n:Nat)(K:List Kt)(Z:vT):Prop:= ∀v0 v1 v2 v3 v4 v5 v6 v7 v8 v9 r2 r3 r4 o5,run (rC X n) K (Gd v0 v1 v2 v3 v4 v5 v6 v7 v8 v9 r2 r3 r4 o5)=Z v0 v1 v2 v3 v4 v5 v6 v7 v8 v9 r2 r3 r4 o5
attribute [go_sem] F7 F9 Gb Gd
def sY(X:kA)(n:Nat):LB (Qg X n) [0,1,0,1,1,1,1] [.blk 2,.cut [1,1,1,1,1],.at [1,1,1,1,1]]:=Cv
def sZ(X:kA)(n:Nat):Nat->F8:=yC ((sY X n).1)
def D9(X:kA){n:Nat}:sZ X n (m+1)=(sY X n).1 (sZ X n m):=rfl
@[go_sem]def Mn(X:kA)(n:Nat)(m:Nat):=BK (sY X n) (sZ X n) m
def s4(X:kA)(n:Nat):LB (Qh X n) [0,1,0,1,1,1,1] [.blk 2,.cut [1,1,1,1,1],.at [1,1,1,1,1]]:=Cv
def s5(X:kA)(n:Nat):Nat->Ga:=yC ((s4 X n).1)
def Ea(X:kA){n:Nat}:s5 X n (m+1)=(s4 X n).1 (s5 X n m):=rfl
@[go_sem]def Mo(X:kA)(n:Nat)(m:Nat):=BK (s4 X n) (s5 X n) m
def oX(X:kA)(n:Nat):LB (Qi X n) [0,1,0,1,1] [.blk 0,.cut [1,1,1],.at [1,1,1]]:=Cv
def vV(X:kA)(n:Nat):Nat->Gc:=yC ((oX X n).1)
def rL(X:kA){n:Nat}:vV X n (m+1)=(oX X n).1 (vV X n m):=rfl
@[go_sem]def Mp(X:kA)(n:Nat)(m:Nat):=BK (oX X n) (vV X n) m
def oY(X:kA)(n:Nat):{B:Nat->vT->vT // ∀m X0,vU X n (.lq m [0,1,0,1,1]::[.blk 0,.cut [1,1,1],.at [1,1,1]]) X0->vU X n (.at [0,0,1,0,1,1]:: .lp m [0,1,0,1,1]::[.blk 0,.cut [1,1,1],.at [1,1,1]]) (B m X0)}:=Cv
def s6(X:kA)(n:Nat):Nat->vT:=lpM fun m=>(oY X n).1 m
def rM(X:kA){n:Nat}:s6 X n (m+1)=(oY X n).1 m (s6 X n m):=rfl
@[go_sem]def Mq(X:kA)(n:Nat)(m:Nat):vU X n (.lq m [0,1,0,1,1]::[.blk 0,.cut [1,1,1],.at [1,1,1]]) (s6 X n m):=
 ate (G:=fun m Z=>vU X n (.lq m [0,1,0,1,1]::[.blk 0,.cut [1,1,1],.at [1,1,1]]) Z) (fun _ _ _ _ _ _ _ _ _ _ _ _ _ _=>JA) (fun m _ ih v0 v1 v2 v3 v4 v5 v6 v7 v8 v9 r2 r3 r4 o5=>CR.trans ((oY X n).2 _ _ ih v0 v1 v2 v3 v4 v5 v6 v7 v8 v9 r2 r3 r4 o5)) m
def wX(X:kA)(n:Nat):SX (rC X n) qK kv 101 rB:=yD
open Go.Proofs
def kB:Nat->kA
 |0=>⟨Fu.z,Fu.z,Fu.z⟩
 |n+1=>⟨(tX (kB n) n).1,(n9 (kB n) n).1,(wX (kB n) n).1⟩
def mG:Int->(List Syntax)->Int->Int->Td->Td->T9->Option Tl:=(kB n).mG
def Hy{n:Nat}:mG (n+1)=(tX (kB n) n).1:=rfl
def lN:Int->(List Syntax)->Int->Int->Td->Td->T9->Option Tl:=(kB n).lN
def rN{n:Nat}:lN (n+1)=(n9 (kB n) n).1:=rfl
def nI:jY->Int->(List Syntax)->Int->(List Syntax)->Int->Int->Td->Td->T9->Option To:=(kB n).nI
def RV{n:Nat}:nI (n+1)=(wX (kB n) n).1:=rfl
def kK{n:Nat}:(kB n).mG=mG n/\(kB n).lN=lN n/\(kB n).nI=nI n:=⟨rfl,rfl,rfl⟩
def u9: ∀n:Nat,qR fC 199 (lS 0 (mh (nq .i64) kP)) kv true kv oV kv (mh (Oq 202 Vk) kP) (pH (kB n).mG)/\qR fC 220 (lS 0 (mh (nq .i64) kP)) kv true kv oV kv (mh (Oq 202 Vk) kP) (pH (kB n).lN)/\qR fC 223 qK kv true kv (mh (lM Syntax.kH) kP) kv (mh (Oq 202 Vk) kP) (rB (kB n).nI)
 |0=>⟨fun _ _ _ h=>(by cases h),fun _ _ _ h=>(by cases h),fun _ _ _ h=>(by cases h)⟩
 |n+1=>by
  obtain⟨Qj,Mr,AG⟩:=u9 n
  exact⟨A6 (tX (kB n) n) (gd (ke (Cu (D0 n)) (ke (pJ (P3 n)) kj)) ko (p:=(kx (kL (Mr)) (kx (kL (AG)) lr)))) func199 ntmps199 results199,
   A6 (n9 (kB n) n) (gd (ke (lF (G7 n)) kj) ko (p:=(kx (kL (AG)) lr)) (c:=(mP (xz (AG)) sQ))) func220 ntmps220 results220,
   A6 (wX (kB n) n) (gd (ke (Cu (D0 n)) (ke (pJ (P3 n)) kj)) ko (p:=(kx (kL (Qj)) lr))) func223 ntmps223 results223⟩
def Qk:qR fC 199 (lS 0 (mh (nq .i64) kP)) kv true kv oV kv (mh (Oq 202 Vk) kP) (pH (mG n)):=(u9 n).1
def ae1:qR fC 220 (lS 0 (mh (nq .i64) kP)) kv true kv oV kv (mh (Oq 202 Vk) kP) (pH (lN n)):=(u9 n).2.1
def ahe:qR fC 223 qK kv true kv (mh (lM Syntax.kH) kP) kv (mh (Oq 202 Vk) kP) (rB (nI n)):=(u9 n).2.2
open Go.Proofs
structure lE where
 tY:Syntax->Option Str
 oJ:Syntax->Option Str
open Go.Proofs
def Yr:yd:=⟨[],[],(zA::zK::zA::zK::zK::wv (wv (wv (wv (wv (mL (zA::[]))))))),[oT Syntax.kH],none,none⟩
def Yt:yd:=⟨[],[],(zA::zK::mN (zK::zK::wv (wv (wv (wv (wv (mN (mN (mN (zA::zA::[])))))))))),[oT Syntax.kH],none,none⟩
@[reducible] def Bt(X:lE)(n:Nat):kU Str:=oI fC f25 n (nH fC [.tmp 2] mI) (cl:=nR [(25,ny (lM Syntax.kH) mI X.tY),(50,ny (lM j7.kH) mI (BQ n)),(51,ny (nq .i64) mI (xh n)),(52,ny (lM Syntax.kH) mI X.oJ)]) (cd:=JB [(25,qa (ny (lM Syntax.kH) mI X.tY))]) (rG:=q9 [([0,1,0,1,1,0,1,0,1,0,1],Yr),([0,1,0,1,0,1,1,1,1,1,1,1,1,1,1,1,1,1,1,1,1,1,1,1,1,1,1,1,1,1,1,1,1,1,0,1,0,1],Yt)]) (vf:=mg []) (vJ:=mg [])
def aiD(X:lE)(n:Nat):an6 (Bt X n) [0,0,0,1,1,1,1,1,1,1,0,1,0,1] [0,0,1,0,0,0,1,1,1,1,1,1,1,1,1,0,1,0,1] [0,0,1,0,0,1,1,1,1,1,1,1,0,1,0,1] [0,0,1,0,1,1,1,1,1,1,1,1,1,1,1,1,1,1,1,1,1,1,1,0,1,0,1]/\an6 (Bt X n) [0,0,1,1,1,0,0,0,1,1,1,1,1,1,1,1,1,0,1,0,1] [0,0,1,1,1,1,1,0,0,0,1,1,1,1,1,1,1,1,1,0,1,0,1] [0,0,1,1,1,1,1,0,1,0,1] [0,0,1,1,1,1,1,1,1,1,1,1,1,0,1,0,1]/\an6 (Bt X n) [0,0,1,1,1,1,1,1,1,1,1,1,1,1,1,0,1,0,1] [0,0,1,1,1,1,1,1,1,1,1,1,1,1,1,1,1,1,1,1,1,1,1,1,1,1,1,1,1,0,1,0,1] [0,1,0,1,1,1,1,1,1,1,0,1,0,1] [0,1,0,1,1,1,1,1,1,1,1,1,0,1,0,1]/\tM (Bt X n) [0,1,1,0,1,1,1,1,1,1,1,1,1,1,1,1,1,1,1,1,1,1,1,0,1,0,1]=true:=⟨⟨jV,jV,jV,jV⟩,⟨jV,jV,jV,jV⟩,⟨jV,jV,jV,jV⟩,jV⟩
attribute [go_sem] aiD Yr Yt
abbrev Yu(v0:Str)(v1:Int)(o0:Syntax):jZ:=⟨(qA:: .ptr 0 0::qA:: .str (sb v0):: .int .i64 v1::wu (wu (wu (wu (wu (mQ (qA::[]))))))),[.cells (Syntax.cells o0)],0,[]⟩
abbrev Yv:List Kt:=[.blk 1,.cut [1,1,1,0,1,0,1,0,1],.at [1,1,1,0,1,0,1,0,1],.blk 0,.cut [1,1],.at [1,1]]
abbrev tI:=Str->Int->Syntax->Option Str
abbrev agd(X:lE)(n:Nat)(K:List Kt)(Z:tI):Prop:= ∀v0 v1 o0,run (Bt X n) K (Yu v0 v1 o0)=Z v0 v1 o0
abbrev Yw(v0:Str)(v1:Int)(o0:Syntax):jZ:=⟨(qA:: .ptr 0 0::mY (.str (sb v0):: .int .i64 v1::wu (wu (wu (wu (wu (mY (mY (mY (qA::qA::[])))))))))),[.cells (Syntax.cells o0)],0,[]⟩
abbrev Yx:List Kt:=[.blk 4,.cut [1,1,0,1,1,1,1,1,1,1,1,1,1,1,1,1,1,1,1,1,1,1,1,1,1,1,1,1,1,1,1,1,0,1,0,1],.at [1,1,0,1,1,1,1,1,1,1,1,1,1,1,1,1,1,1,1,1,1,1,1,1,1,1,1,1,1,1,1,1,0,1,0,1],.blk 0,.cut [1,1],.at [1,1]]
abbrev age(X:lE)(n:Nat)(K:List Kt)(Z:tI):Prop:= ∀v0 v1 o0,run (Bt X n) K (Yw v0 v1 o0)=Z v0 v1 o0
attribute [go_sem] Yu Yv Yw Yx
def zr(X:lE)(n:Nat):LB (agd X n) [0,1,0,1,1,0,1,0,1,0,1] Yv:=mB
def zt(X:lE)(n:Nat):Nat->tI:=yC ((zr X n).1)
def Fj(X:lE){n:Nat}:zt X n (m+1)=(zr X n).1 (zt X n m):=rfl
@[go_sem]def abK(X:lE)(n:Nat)(m:Nat):=BK (zr X n) (zt X n) m
def ER(X:lE)(n:Nat):LB (age X n) [0,1,0,1,0,1,1,1,1,1,1,1,1,1,1,1,1,1,1,1,1,1,1,1,1,1,1,1,1,1,1,1,1,1,0,1,0,1] Yx:=mB
def ES(X:lE)(n:Nat):Nat->tI:=yC ((ER X n).1)
def SV(X:lE){n:Nat}:ES X n (m+1)=(ER X n).1 (ES X n m):=rfl
@[go_sem]def abL(X:lE)(n:Nat)(m:Nat):=BK (ER X n) (ES X n) m
def nh(X:lE)(n:Nat):NA (Bt X n) (lM Syntax.kH) 342:=mB
open Go.Proofs
def K2:yd:=⟨[],[],(zA::zK::zA::zA::zA::zK::zA::zK::wv (mL (mL []))),[oT Syntax.kH],none,none⟩
def K3:yd:=⟨[],[],(zA::zK::zA::zA::zA::zK::zK::wv (mL (mL (zA::[])))),[oT Syntax.kH],none,none⟩
def K4:yd:=⟨[],[],(zA::zK::zA::zK::zK::wv (mL (mL (zA::zA::zA::[])))),[oT Syntax.kH],none,none⟩
@[reducible] def xH(X:lE)(n:Nat):kU Str:=oI fC f52 n (nH fC [.tmp 2] mI) (cl:=nR [(25,ny (lM Syntax.kH) mI X.tY),(52,ny (lM Syntax.kH) mI X.oJ)]) (cd:=JB [(52,qa (ny (lM Syntax.kH) mI X.oJ))]) (rG:=q9 [([0,1,0,1,1,1,1],K2),([0,1,0,1,1,1],K3),([0,1,0,1,1,0,1,1,1,0,0,1],K4)]) (vf:=mg []) (vJ:=mg [])
def Zl(X:lE)(n:Nat):tM (xH X n) [0,0,1,0,0,1]=true:=jV
attribute [go_sem] Zl K2 K3 K4
abbrev K5(v0:Str)(v1:Int)(o0:Syntax):jZ:=⟨(qA:: .ptr 0 0::qA::qA::qA:: .str (sb v0)::qA:: .int .i64 v1::wu (mQ (mQ []))),[.cells (Syntax.cells o0)],0,[]⟩
abbrev XL(X:lE)(n:Nat)(K:List Kt)(Z:tI):Prop:= ∀v0 v1 o0,run (xH X n) K (K5 v0 v1 o0)=Z v0 v1 o0
abbrev K6(v0:Str)(v1:Int)(o0:Syntax):jZ:=⟨(qA:: .ptr 0 0::qA::qA::qA:: .str (sb v0):: .int .i64 v1::wu (mQ (mQ (qA::[])))),[.cells (Syntax.cells o0)],0,[]⟩
abbrev XM(X:lE)(n:Nat)(K:List Kt)(Z:tI):Prop:= ∀v0 v1 o0,run (xH X n) K (K6 v0 v1 o0)=Z v0 v1 o0
abbrev K7(v0:Str)(v1:Int)(o0:Syntax):jZ:=⟨(qA:: .ptr 0 0::qA:: .str (sb v0):: .int .i64 v1::wu (mQ (mQ (qA::qA::qA::[])))),[.cells (Syntax.cells o0)],0,[]⟩
abbrev K8:List Kt:=[.blk 1,.cut [1,1,1,0,1,1,1,0,0,1],.at [1,1,1,0,1,1,1,0,0,1],.blk 0,.cut [1,1],.at [1,1]]
abbrev XN(X:lE)(n:Nat)(K:List Kt)(Z:tI):Prop:= ∀v0 v1 o0,run (xH X n) K (K7 v0 v1 o0)=Z v0 v1 o0
attribute [go_sem] K5 K6 K7 K8
def qu(X:lE)(n:Nat):LB (XL X n) [0,1,0,1,1,1,1] [.blk 5,.cut [1,1,1,1,1],.at [1,1,1,1,1]]:=mB
def uk(X:lE)(n:Nat):Nat->tI:=yC ((qu X n).1)
def uH(X:lE){n:Nat}:uk X n (m+1)=(qu X n).1 (uk X n m):=rfl
@[go_sem]def RW(X:lE)(n:Nat)(m:Nat):=BK (qu X n) (uk X n) m
def ul(X:lE)(n:Nat):LB (XM X n) [0,1,0,1,1,1] [.blk 3,.cut [1,1,1,1],.at [1,1,1,1]]:=mB
def um(X:lE)(n:Nat):Nat->tI:=yC ((ul X n).1)
def Cl(X:lE){n:Nat}:um X n (m+1)=(ul X n).1 (um X n m):=rfl
@[go_sem]def RX(X:lE)(n:Nat)(m:Nat):=BK (ul X n) (um X n) m
def wF(X:lE)(n:Nat):LB (XN X n) [0,1,0,1,1,0,1,1,1,0,0,1] K8:=mB
def uo(X:lE)(n:Nat):Nat->tI:=yC ((wF X n).1)
def Io(X:lE){n:Nat}:uo X n (m+1)=(wF X n).1 (uo X n m):=rfl
@[go_sem]def RY(X:lE)(n:Nat)(m:Nat):=BK (wF X n) (uo X n) m
def q6(X:lE)(n:Nat):NA (xH X n) (lM Syntax.kH) 104:=mB
open Go.Proofs
def lO:Nat->lE
 |0=>⟨Fu.z,Fu.z⟩
 |n+1=>⟨(nh (lO n) n).1,(q6 (lO n) n).1⟩
def tY:Syntax->Option Str:=(lO n).tY
def om{n:Nat}:tY (n+1)=(nh (lO n) n).1:=rfl
def oJ:Syntax->Option Str:=(lO n).oJ
def xI{n:Nat}:oJ (n+1)=(q6 (lO n) n).1:=rfl
def kV{n:Nat}:(lO n).tY=tY n/\(lO n).oJ=oJ n:=⟨rfl,rfl⟩
def Ms: ∀n:Nat,xm fC 25 (lM Syntax.kH) mI (lO n).tY/\xm fC 52 (lM Syntax.kH) mI (lO n).oJ
 |0=>⟨fun _ _ h=>(by cases h),fun _ _ h=>(by cases h)⟩
 |n+1=>by
  obtain⟨O2,Et⟩:=Ms n
  exact⟨zd (nh (lO n) n) (gd (ke (lF (O2)) (ke (lF (Zg n)) (ke (lF (DQ n)) (ke (lF (Et)) kj)))) (ng (mr (O2)) ko)) func25 ntmps25 results25,
   zd (q6 (lO n) n) (gd (ke (lF (O2)) (ke (lF (Et)) kj)) (ng (mr (Et)) ko)) func52 ntmps52 results52⟩
def agf:xm fC 25 (lM Syntax.kH) mI (tY n):=(Ms n).1
def aml:xm fC 52 (lM Syntax.kH) mI (oJ n):=(Ms n).2
open Go.Proofs
@[go_sem]def tC:yd:=⟨[],[],(zA::zT (nP j7.row)::zT (tyF 43)::mN (mN (mN (zT (nP j7.row)::zK::zK::mN (mN (mN (zA::zA::[]))))))),[],none,none⟩
@[reducible] def tZ:kU Bool:=oI fC f42 n (nH fC [.tmp 6] mX) (cl:=nR [(43,uC (lM j7.kH) (lM j7.kH) mX (NP n))]) (rG:=q9 [([0,1,0,1,1],tC)])
@[go_sem]abbrev tD(v0 v1:List j7)(v2 v3:Int):jZ:=⟨(qA:: .mb false 2 (mp j7.cells v0):: .func (.func 43) [] []::mY (mY (mY (.mb false 2 (mp j7.cells v1):: .int .i64 v2:: .int .i64 v3::mY (mY (mY (qA::qA::[]))))))),[],0,[]⟩
abbrev tE:=Tj->Tj->Int->Int->Option Bool
abbrev AR(K:List Kt)(Z:tE):Prop:= ∀v0 v1 v2 v3,run (tZ n) K (tD v0 v1 v2 v3)=Z v0 v1 v2 v3
def mJ:LB (AR n) [0,1,0,1,1] [.blk 0,.cut [1,1,1],.at [1,1,1]]:=mB
def mK:Nat->tE:=yC ((mJ n).1)
def sH{n:Nat}:mK n (m+1)=(mJ n).1 (mK n m):=rfl
@[go_sem]def zu(m:Nat):=BK (mJ n) (mK n) m
def qc:SC3 (tZ n) (nP j7.row) (nP j7.row) (tyF 43) 32:=mB
def oR:=fu fun n=>(qc n).1
def AS: ∀n:Nat,aiv fC 42 (nP j7.row) (nP j7.row) (tyF 43) mX (oR n):=azu fun n=>atq (qc n) (gd (ke (pJ (aeX n)) kj) ko) func42 ntmps42 results42
@[reducible] def aiE:kU Bool:=oI fC f20 n (nH fC [.tmp 4] mX) (cl:=nR [(16,Vg (lM Syntax.kH) (lM Syntax.kH) mX mX (qZ n))])
def RZ:SC2 (aiE n) (lM Syntax.kH) (lM Syntax.kH) 8:=mB
def R0:=fu fun n=>(RZ n).1
def agh: ∀n:Nat,GO fC 20 (lM Syntax.kH) (lM Syntax.kH) mX (R0 n):=LX fun n=>Ks (RZ n) (gd (ke (aab (V2 n)) kj) ko) func20 ntmps20 results20
open Go.Proofs
@[go_sem]def SW:yd:=⟨[],[],(zK::zA::zA::zA::zT (nP nO)::zK::wv (zA::zA::zA::[])),[],none,none⟩
@[go_sem]def SY:yd:=⟨[],[],(zK::zA::zA::zK::wv (mN (zA::[]))),[],none,none⟩
@[reducible] def Mt:kU Bool:=oI fC f45 n (nH fC [.tmp 2] mX) (cl:=nR [(49,ny mI mX (EF n)),(84,ny (nq .u8) mX (Hh n)),(85,uC mI (nq .i64) (nq .i64) (Fi n)),(86,ny (nq .u8) mX (Rn n)),(87,aen (aqF nO) (NC n))]) (rG:=q9 [([0,1,0,1,1,1,1,1],SW),([0,1,0,1,1,1],SY)])
@[go_sem]abbrev SZ(v0:Str)(v1:List Str)(v2:Int):jZ:=⟨(.str (sb v0)::qA::qA::qA:: .mb false 1 (mp nB v1):: .int .i64 v2::wu (qA::qA::qA::[])),[],0,[]⟩
abbrev ac8(K:List Kt)(Z:DK):Prop:= ∀v0 v1 v2,run (Mt n) K (SZ v0 v1 v2)=Z v0 v1 v2
@[go_sem]abbrev S6(v0:Str)(v1:Int):jZ:=⟨(.str (sb v0)::qA::qA:: .int .i64 v1::wu (mY (qA::[]))),[],0,[]⟩
abbrev S7:=Str->Int->Option Bool
abbrev ac9(K:List Kt)(Z:S7):Prop:= ∀v0 v1,run (Mt n) K (S6 v0 v1)=Z v0 v1
def BT:LB (ac8 n) [0,1,0,1,1,1,1,1] [.blk 2,.cut [1,1,1,1,1,1],.at [1,1,1,1,1,1]]:=mB
def yw:Nat->DK:=yC ((BT n).1)
def NV{n:Nat}:yw n (m+1)=(BT n).1 (yw n m):=rfl
@[go_sem]def Zm(m:Nat):=BK (BT n) (yw n) m
def BU:LB (ac9 n) [0,1,0,1,1,1] [.blk 0,.cut [1,1,1,1],.at [1,1,1,1]]:=mB
def BV:Nat->S7:=yC ((BU n).1)
def NW{n:Nat}:BV n (m+1)=(BU n).1 (BV n m):=rfl
@[go_sem]def Zn(m:Nat):=BK (BU n) (BV n) m
def Mu:NA (Mt n) mI 73:=mB
def Lt:=fu fun n=>(Mu n).1
def ada: ∀n:Nat,xm fC 45 mI mX (Lt n):=Cb fun n=>zd (Mu n) (gd (ke (lF (PI n)) (ke (lF (SN n)) (ke (pJ (Zi n)) (ke (lF (af1 n)) (ke (aaa (aeJ n)) kj))))) ko) func45 ntmps45 results45
@[reducible] def adb:kU Bool:=oI fC f185 n (nH fC [.tmp 2] mX) (cl:=nR [(148,I1 (Dg n))])
def KD:NA (adb n) mI 6:=mB
def Jl:=fu fun n=>(KD n).1
def abM: ∀n:Nat,xm fC 185 mI mX (Jl n):=Cb fun n=>zd (KD n) (gd (ke (Cu (NT n)) kj) ko) func185 ntmps185 results185
@[go_sem]def Ip:yd:=⟨[],[],(zK::mL (mL (mL (mN (zA::zA::[]))))),[oC [zK,zK,zK,zK,zK],oK,oK,oK],none,none⟩
@[go_sem]abbrev yL(F:Str->Int->T9->T9->T9->Option (Ti×Unit))(b:Ti)(a:Unit):=F b.1.1 b.1.2.1 b.2.1 b.2.2.1 b.2.2.2.1
@[go_sem]def J6(F:Str->Int->T9->T9->T9->Option (Ti×Unit)):=aag [.arg 0 [],.obj 0 2 [],.obj 0 3 [],.obj 0 4 []] kJ (lS 0 kP) kJ kP (yL F)
@[reducible] def Dj:kU (Ti×Unit):=oI fC f155 n (CT fC [] [] [0,1,2,3] 4 kJ kP) (cl:=nR [(93,uC mI mI mX (CC n)),(188,uC mI (nq .i32) mX (vp n)),(189,uC mI mI (ty3 mI mI mX) (strings_Cut n))]) (rG:=q9 [([0],Ip)]) (vf:=mg []) (vJ:=mg [])
@[go_sem]def V5:an5 (Dj n) [0,0,0,0] [0,0,1,0,0]:=⟨jV,jV⟩
@[go_sem]abbrev Iq(v0:Str)(v1:Int)(r1 r2 r3:List (Str×Bool)):jZ:=⟨(.ptr 0 0::mQ (mQ (mQ (mY (qA::qA::[]))))),[.cells [.str (sb v0),.int .i64 v1,.map 1,.map 2,.map 3],.map (mp DG r1),.map (mp DG r2),.map (mp DG r3)],4,[]⟩
abbrev Ir:=Str->Int->T9->T9->T9->Option (Ti×Unit)
abbrev Uq(K:List Kt)(Z:Ir):Prop:= ∀v0 v1 r1 r2 r3,run (Dj n) K (Iq v0 v1 r1 r2 r3)=Z v0 v1 r1 r2 r3
def xW:LB (Uq n) [0] [.blk 0]:=mB
def xX:Nat->Ir:=yC ((xW n).1)
def Ql{n:Nat}:xX n (m+1)=(xW n).1 (xX n m):=rfl
@[go_sem]def O3(m:Nat):=BK (xW n) (xX n) m
def Dk:SX (Dj n) (lS 0 kP) kJ 55 yL:=mC
def uW:=fu fun n=>(Dk n).1
def Ur: ∀n:Nat,Xt fC 155 (lS 0 kP) kJ kJ kP (yL (uW n)):=abw fun n=>abv (Dk n) (gd (ke (pJ (VI n)) (ke (pJ (Qb n)) (ke (pJ (aeG n)) kj))) ko) func155 ntmps155 results155
@[reducible] def Hz:kU Tz:=oI fC f154 n (CT fC [.tmp 2,.tmp 3,.tmp 4] [] [0,1,2,3] 4 kJ mZ) (cd:=JB [(187,qa (aij (uC mI mI (nq .i64) (vP n)) (uC mI mI (nq .i64) (strings_IndexAny n))))]) (vf:=mg []) (vJ:=mg [])
@[go_sem]def R1:an6 (Hz n) [0,0,1,0,1,1] [0,0,1,1] [0,1] [0,1,1,1]:=⟨jV,jV,jV,jV⟩
def Bu:SX (Hz n) (lS 0 kP) kJ 45 nD:=mC
def yM:=fu fun n=>(Bu n).1
def Qm: ∀n:Nat,Xt fC 154 (lS 0 kP) kJ kJ mZ (nD (yM n)):=abw fun n=>abv (Bu n) (gd kj (ng (anR (vh (Vn n)) (vh (XK n))) ko)) func154 ntmps154 results154
@[reducible] def V6:kU Ts:=oI fC f72 n (py fC [] [] [0] 1 jW kP) (oz:=pz [] [0] 1 jW j9) (cp:=yj [(103,lu (me n))]) (uR:=mg [103])
def yN:SX (V6 n) (lS 0 (mh (nq .i64) kP)) jW 8 ol:=yD
def lj:=fu fun n=>(yN n).1
def l7: ∀n:Nat,qR fC 72 (lS 0 (mh (nq .i64) kP)) jW true jW kP jW j9 (ol (lj n)):=Rm fun n=>A6 (yN n) (gd kj ko (p:=(kx (kL (sX n)) lr))) func72 ntmps72 results72
@[go_sem]abbrev qd(F:Bool->jX->Option Ts)(b:T6)(a:(Bool×Unit)):=F a.1 b.1.1
@[go_sem]def qe(F:Bool->jX->Option Ts):=uF true [.arg 0 []] jW (lS 0 (mh mX kP)) jW kP jW j9 (qd F)
@[reducible] def R2:kU Ts:=oI fC f57 n (py fC [] [] [0] 1 jW kP) (oz:=pz [] [0] 1 jW j9) (cp:=yj [(103,lu (me n))]) (uR:=mg [103])
def Bv:SX (R2 n) (lS 0 (mh mX kP)) jW 8 qd:=yD
def lW:=fu fun n=>(Bv n).1
def nV: ∀n:Nat,qR fC 57 (lS 0 (mh mX kP)) jW true jW kP jW j9 (qd (lW n)):=Rm fun n=>A6 (Bv n) (gd kj ko (p:=(kx (kL (sX n)) lr))) func57 ntmps57 results57
open Go.Proofs
structure tJ where
 s7:Syntax->Syntax->Option Bool
 lm:(List Syntax)->(List Syntax)->Unit->Option Bool
open Go.Proofs
@[reducible] def agi(X:tJ)(n:Nat):kU Bool:=oI fC f19 n (nH fC [.tmp 4] mX) (cl:=nR [(41,uC (nP nO) (nP nO) mX (zU n)),(42,Vg (nP j7.row) (nP j7.row) (tyF 43) mX (oR n)),(44,Vg (nP Syntax.row) (nP Syntax.row) (tyF 19) mX X.lm)])
def ET(X:tJ)(n:Nat):SC2 (agi X n) (lM Syntax.kH) (lM Syntax.kH) 45:=mB
open Go.Proofs
@[go_sem]def vq:yd:=⟨[],[],(zA::zT (nP Syntax.row)::zT (tyF 19)::mN (mN (mN (zT (nP Syntax.row)::zK::zK::mN (mN (mN (zA::zA::[]))))))),[],none,none⟩
@[reducible] def vW(X:tJ)(n:Nat):kU Bool:=oI fC f44 n (nH fC [.tmp 6] mX) (cl:=nR [(19,uC (lM Syntax.kH) (lM Syntax.kH) mX X.s7)]) (rG:=q9 [([0,1,0,1,1],vq)])
@[go_sem]abbrev vu(v0 v1:List Syntax)(v2 v3:Int):jZ:=⟨(qA:: .mb false 8 (mp Syntax.cells v0):: .func (.func 19) [] []::mY (mY (mY (.mb false 8 (mp Syntax.cells v1):: .int .i64 v2:: .int .i64 v3::mY (mY (mY (qA::qA::[]))))))),[],0,[]⟩
abbrev vz:=(List Syntax)->(List Syntax)->Int->Int->Option Bool
abbrev Dl(X:tJ)(n:Nat)(K:List Kt)(Z:vz):Prop:= ∀v0 v1 v2 v3,run (vW X n) K (vu v0 v1 v2 v3)=Z v0 v1 v2 v3
def lX(X:tJ)(n:Nat):LB (Dl X n) [0,1,0,1,1] [.blk 0,.cut [1,1,1],.at [1,1,1]]:=mB
def lY(X:tJ)(n:Nat):Nat->vz:=yC ((lX X n).1)
def oS(X:tJ){n:Nat}:lY X n (m+1)=(lX X n).1 (lY X n m):=rfl
@[go_sem]def BW(X:tJ)(n:Nat)(m:Nat):=BK (lX X n) (lY X n) m
def nW(X:tJ)(n:Nat):SC3 (vW X n) (nP Syntax.row) (nP Syntax.row) (tyF 19) 32:=mB
open Go.Proofs
def oa:Nat->tJ
 |0=>⟨Fu.z,Fu.z⟩
 |n+1=>⟨(ET (oa n) n).1,(nW (oa n) n).1⟩
def s7:Syntax->Syntax->Option Bool:=(oa n).s7
def Yy{n:Nat}:s7 (n+1)=(ET (oa n) n).1:=rfl
def lm:(List Syntax)->(List Syntax)->Unit->Option Bool:=(oa n).lm
def vX{n:Nat}:lm (n+1)=(nW (oa n) n).1:=rfl
def vA{n:Nat}:(oa n).s7=s7 n/\(oa n).lm=lm n:=⟨rfl,rfl⟩
def KE: ∀n:Nat,GO fC 19 (lM Syntax.kH) (lM Syntax.kH) mX (oa n).s7/\aiv fC 44 (nP Syntax.row) (nP Syntax.row) (tyF 19) mX (oa n).lm
 |0=>⟨fun _ _ _ h=>(by cases h),fun _ _ _ _ h=>(by cases h)⟩
 |n+1=>by
  obtain⟨ae2,Dm⟩:=KE n
  exact⟨Ks (ET (oa n) n) (gd (ke (pJ (Rz n)) (ke (aab (AS n)) (ke (aab (Dm)) kj))) ko) func19 ntmps19 results19,
   atq (nW (oa n) n) (gd (ke (pJ (ae2)) kj) ko) func44 ntmps44 results44⟩
def V7:GO fC 19 (lM Syntax.kH) (lM Syntax.kH) mX (s7 n):=(KE n).1
def V8:aiv fC 44 (nP Syntax.row) (nP Syntax.row) (tyF 19) mX (lm n):=(KE n).2
open Go.Proofs
@[reducible] def Mv:kU Bool:=oI fC f123 n (nH fC [.tmp 2] mX) (cl:=nR [(79,uC (zI jX.kH) mI mX (mF n)),(159,ny (zI jX.kH) mX (sU n))])
def xJ:NA (Mv n) (zI jX.kH) 9:=mB
def qq:=fu fun n=>(xJ n).1
def wY: ∀n:Nat,xm fC 123 (zI jX.kH) mX (qq n):=Cb fun n=>zd (xJ n) (gd (ke (pJ (nU n)) (ke (lF (At n)) kj)) ko) func123 ntmps123 results123
@[reducible] def HA:kU (Tc×(Bool×Unit)):=oI fC f122 n (aih fC [.tmp 4] (vO (za jX.kH) uD) (Nv mX JD) 1) (cl:=nR [(59,Aj [0] (vO (za jX.kH) uD) (Om 0 Ln) (vO (za jX.kH) uD) (Nv mI JD) (fun(b:Tc) a=>(kW n) b.1)),(79,AQ (qa (uC (zI jX.kH) mI mX (mF n))))])
def Bw:{B:jX->Str->Option (Tc×(Bool×Unit)) // ∀(a0:jX)(a1:Str),run (HA n) [.at []] (ini ((Om 0 (asT mI Ln)).enc (a0,()) (a1,())) 13 ((vO (za jX.kH) uD).enc (a0,())))=B a0 a1}:=mB
def lC:=fu fun n=>(Bw n).1
def lR: ∀(n:Nat)(a0:jX)(a1:Str)(r:(Tc×(Bool×Unit))),lC n a0 a1=some r->FnG fC 122 ((Om 0 (asT mI Ln)).enc (a0,()) (a1,())) ((vO (za jX.kH) uD).enc (a0,())) (fun o H'=>o= .ret (uE ((Nv mX JD).enc r.1 r.2))/\H'=(vO (za jX.kH) uD).enc r.1)
 |0,_,_,_,h=>by cases h
 |n+1,a0,a1,r,h=>by
  exact Ct (M:=HA n) ⟨(ke (pq (fun b a r h=>(lB n) b.1 r h)) (ke (oP (vh (nU n))) kj)),ko,qS _,rq _,vg,vi,wM,wm⟩ func122 rfl rfl (by simp only[go_sem,fH,fI,fD,fE,fJ,fK,fM,fN,fO,fF,fL,fP]) ((vO (za jX.kH) uD).nb _ _) ntmps122 results122 (fun σ hs=>adx hs) (((Bw n).2 a0 a1).trans h)
open Go.Proofs
@[go_sem]def V9:yd:=⟨[],[],(zA::zK::zA::zA::zA::zK::wv (mL (mL (mN (zA::zA::zA::[]))))),[oT jY.kH],none,none⟩
@[go_sem]def Wa:yd:=⟨[],[],(zA::zK::zA::zK::zK::wv (mL (mL (mN (mN []))))),[oT jY.kH],none,none⟩
@[reducible] def O4:kU Int:=oI fC f114 n (nH fC [.tmp 2] (nq .i64)) (cl:=nR [(45,ny mI mX (Lt n)),(116,ny (lM jY.kH) mX (A8 n)),(145,ny (lM jY.kH) mX (ND n)),(146,ny mI mX (RB n))]) (rG:=q9 [([0,1,0,1,1,1,1,1],V9),([0,1,0,1,1,1],Wa)])
@[go_sem]abbrev Wb(v0:Int)(o0:jY):jZ:=⟨(qA:: .ptr 0 0::qA::qA::qA:: .int .i64 v0::wu (mQ (mQ (mY (qA::qA::qA::[]))))),[.cells (jY.cells o0)],0,[]⟩
abbrev Wc:=Int->jY->Option Int
abbrev ae3(K:List Kt)(Z:Wc):Prop:= ∀v0 o0,run (O4 n) K (Wb v0 o0)=Z v0 o0
@[go_sem]abbrev We(v0:Bool)(v1:Int)(o0:jY):jZ:=⟨(qA:: .ptr 0 0::qA:: .bool v0:: .int .i64 v1::wu (mQ (mQ (mY (mY []))))),[.cells (jY.cells o0)],0,[]⟩
abbrev Wf:=Bool->Int->jY->Option Int
abbrev ae4(K:List Kt)(Z:Wf):Prop:= ∀v0 v1 o0,run (O4 n) K (We v0 v1 o0)=Z v0 v1 o0
def Dn:LB (ae3 n) [0,1,0,1,1,1,1,1] [.blk 2,.cut [1,1,1,1,1,1],.at [1,1,1,1,1,1]]:=mB
def AH:Nat->Wc:=yC ((Dn n).1)
def Qn{n:Nat}:AH n (m+1)=(Dn n).1 (AH n m):=rfl
@[go_sem]def aaH(m:Nat):=BK (Dn n) (AH n) m
def Do:LB (ae4 n) [0,1,0,1,1,1] [.blk 0,.cut [1,1,1,1],.at [1,1,1,1]]:=mB
def vB:Nat->Wf:=yC ((Do n).1)
def Qo{n:Nat}:vB n (m+1)=(Do n).1 (vB n m):=rfl
@[go_sem]def aaI(m:Nat):=BK (Do n) (vB n) m
def O5:NA (O4 n) (lM jY.kH) 109:=mB
def NX:=fu fun n=>(O5 n).1
def ae5: ∀n:Nat,xm fC 114 (lM jY.kH) (nq .i64) (NX n):=Cb fun n=>zd (O5 n) (gd (ke (lF (ada n)) (ke (lF (EG n)) (ke (lF (aeK n)) (ke (lF (af7 n)) kj)))) ko) func114 ntmps114 results114
def S8:yd:=⟨[],[],(zK::mL (mL (mL (zA::zA::zT (nP nO)::zK::zK::mN (mN (zA::[])))))),[],none,none⟩
def S9:yd:=⟨[],[],(zK::mL (mN (mN (mN (zA::zA::zA::zK::zK::mL (mN (mN (mN (zA::[]))))))))),[],none,none⟩
def TT:yd:=⟨[],[],(zK::mN (mN (mN (zA::zK::zK::mL (mL (mN (mN (mN (zA::zA::zA::[]))))))))),[],none,none⟩
@[reducible] def HB:kU Bool:=oI fC f149 n (nH fC [.tmp 2] mX) (cl:=nR [(150,aen (nP nO) (JR n)),(156,ny (nq .u8) (nq .i64) (AW n)),(166,uC mI mI mX (strings_Contains n)),(184,ny (nq .u8) mX (wU n)),(185,ny mI mX (Jl n))]) (rG:=q9 [([0,1,0,1,1,1,1,1],S8),([0,1,0,1,1,1],S9),([0,1,0,0,1,0,1,1],TT)])
attribute [go_sem] S8 S9 TT
abbrev TU(v0:Str)(v1:List Str)(v2 v3:Int):jZ:=⟨(.str (sb v0)::mQ (mQ (mQ (qA::qA:: .mb false 1 (mp nB v1):: .int .i64 v2:: .int .i64 v3::mY (mY (qA::[])))))),[],0,[]⟩
abbrev TV:=Str->(List Str)->Int->Int->Option Bool
abbrev ade(K:List Kt)(Z:TV):Prop:= ∀v0 v1 v2 v3,run (HB n) K (TU v0 v1 v2 v3)=Z v0 v1 v2 v3
abbrev TW(v0:Str)(v1 v2:Int):jZ:=⟨(.str (sb v0)::mQ (mY (mY (mY (qA::qA::qA:: .int .i64 v1:: .int .i64 v2::mQ (mY (mY (mY (qA::[]))))))))),[],0,[]⟩
abbrev Fk:=Str->Int->Int->Option Bool
abbrev adf(K:List Kt)(Z:Fk):Prop:= ∀v0 v1 v2,run (HB n) K (TW v0 v1 v2)=Z v0 v1 v2
abbrev TX(v0:Str)(v1 v2:Int):jZ:=⟨(.str (sb v0)::mY (mY (mY (qA:: .int .i64 v1:: .int .i64 v2::mQ (mQ (mY (mY (mY (qA::qA::qA::[]))))))))),[],0,[]⟩
abbrev TY:List Kt:=[.blk 0,.cut [1,0,1,0,1,1],.at [1,0,1,0,1,1],.cut [1,1,1],.at [1,1,1]]
abbrev adg(K:List Kt)(Z:Fk):Prop:= ∀v0 v1 v2,run (HB n) K (TX v0 v1 v2)=Z v0 v1 v2
attribute [go_sem] TU TW TX TY
def BX:LB (ade n) [0,1,0,1,1,1,1,1] [.blk 4,.cut [1,1,1,1,1,1],.at [1,1,1,1,1,1]]:=mB
def yx:Nat->TV:=yC ((BX n).1)
def NY{n:Nat}:yx n (m+1)=(BX n).1 (yx n m):=rfl
@[go_sem]def Zo(m:Nat):=BK (BX n) (yx n) m
def BY:LB (adf n) [0,1,0,1,1,1] [.blk 2,.cut [1,1,1,1],.at [1,1,1,1]]:=mB
def BZ:Nat->Fk:=yC ((BY n).1)
def N1{n:Nat}:BZ n (m+1)=(BY n).1 (BZ n m):=rfl
@[go_sem]def Zp(m:Nat):=BK (BY n) (BZ n) m
def B0:LB (adg n) [0,1,0,0,1,0,1,1] TY:=mB
def B1:Nat->Fk:=yC ((B0 n).1)
def N2{n:Nat}:B1 n (m+1)=(B0 n).1 (B1 n m):=rfl
@[go_sem]def Zq(m:Nat):=BK (B0 n) (B1 n) m
def Mw:NA (HB n) mI 63:=mB
def HC:=fu fun n=>(Mw n).1
def TZ: ∀n:Nat,xm fC 149 mI mX (HC n):=Cb fun n=>zd (Mw n) (gd (ke (aaa (VF n)) (ke (lF (CU n)) (ke (pJ (Ek n)) (ke (lF (KA n)) (ke (lF (abM n)) kj))))) ko) func149 ntmps149 results149
@[go_sem]abbrev yO(F:Str->jX->Option Ts)(b:T6)(a:(Str×Unit)):=F a.1 b.1.1
@[go_sem]def nJ(F:Str->jX->Option Ts):=uF true [.arg 0 []] jW (lS 0 (mh mI kP)) jW kP jW j9 (yO F)
@[reducible] def Wg:kU Ts:=oI fC f60 n (py fC [] [] [0] 1 jW kP) (cl:=nR [(59,Aj [0] (vO (za jX.kH) uD) (Om 0 Ln) (vO (za jX.kH) uD) (Nv mI JD) (fun(b:Tc) a=>(kW n) b.1)),(74,AQ (qa (Vg (zI jX.kH) (nq .i64) mI mX (sS n)))),(79,AQ (qa (uC (zI jX.kH) mI mX (mF n))))]) (oz:=pz [] [0] 1 jW j9) (cp:=yj [(57,qe (lW n))]) (uR:=mg [57])
def Dp:SX (Wg n) (lS 0 (mh mI kP)) jW 16 yO:=yD
def lZ:=fu fun n=>(Dp n).1
def nY: ∀n:Nat,qR fC 60 (lS 0 (mh mI kP)) jW true jW kP jW j9 (yO (lZ n)):=Rm fun n=>A6 (Dp n) (gd (ke (pq (fun b a r h=>(lB n) b.1 r h)) (ke (oP (LS (wD n))) (ke (oP (vh (nU n))) kj))) ko (p:=(kx (kL (nV n)) lr))) func60 ntmps60 results60
@[go_sem]abbrev oF(F:jX->Option (PR TB (T6×T8)))(b:T6)(a:Unit):=F b.1.1
@[go_sem]def mO(F:jX->Option (PR TB (T6×T8))):=uF true [.arg 0 []] jW (lS 0 kP) jW (mh mI kP) jW j9 (oF F)
@[reducible] def O6:kU (PR TB (T6×T8)):=oI fC f119 n (py fC [.tmp 2] [] [0] 1 jW (mh mI kP)) (cl:=nR [(59,Aj [0] (vO (za jX.kH) uD) (Om 0 Ln) (vO (za jX.kH) uD) (Nv mI JD) (fun(b:Tc) a=>(kW n) b.1)),(123,AQ (qa (ny (zI jX.kH) mX (qq n))))]) (oz:=pz [] [0] 1 jW j9) (cp:=yj [(57,qe (lW n))]) (uR:=mg [57])
def zw:SX (O6 n) (lS 0 kP) jW 9 oF:=yD
def oo:=fu fun n=>(zw n).1
def rO: ∀n:Nat,qR fC 119 (lS 0 kP) jW true jW (mh mI kP) jW j9 (oF (oo n)):=Rm fun n=>A6 (zw n) (gd (ke (pq (fun b a r h=>(lB n) b.1 r h)) (ke (oP (mr (wY n))) kj)) ko (p:=(kx (kL (nV n)) lr))) func119 ntmps119 results119
@[go_sem]abbrev wZ(F:jX->Option TN)(b:T6)(a:Unit):=F b.1.1
@[go_sem]def w8(F:jX->Option TN):=uF true [.arg 0 []] jW (lS 0 kP) jW (mh (nq .i64) kP) jW j9 (wZ F)
@[reducible] def R3:kU TN:=oI fC f141 n (py fC [.tmp 2] [] [0] 1 jW (mh (nq .i64) kP)) (cl:=nR [(56,AQ (qa (ny (zI jX.kH) (lM kI.kH) (lG n)))),(59,Aj [0] (vO (za jX.kH) uD) (Om 0 Ln) (vO (za jX.kH) uD) (Nv mI JD) (fun(b:Tc) a=>(kW n) b.1)),(181,ny mI (ty2 (nq .i64) atj) (strconv_Atoi n))]) (oz:=pz [] [0] 1 jW j9) (cp:=yj [(57,qe (lW n))]) (uR:=mg [57])
def Bx:SX (R3 n) (lS 0 kP) jW 18 wZ:=yD
def p5:=fu fun n=>(Bx n).1
def AI: ∀n:Nat,qR fC 141 (lS 0 kP) jW true jW (mh (nq .i64) kP) jW j9 (wZ (p5 n)):=Rm fun n=>A6 (Bx n) (gd (ke (oP (mr (lJ n))) (ke (pq (fun b a r h=>(lB n) b.1 r h)) (ke (lF (acW n)) kj))) ko (p:=(kx (kL (nV n)) lr))) func141 ntmps141 results141
@[reducible] def Mx:kU (PR TB (T6×T8)):=oI fC f179 n (py fC [.tmp 2] [] [0] 1 jW (mh mI kP)) (cl:=nR [(59,Aj [0] (vO (za jX.kH) uD) (Om 0 Ln) (vO (za jX.kH) uD) (Nv mI JD) (fun(b:Tc) a=>(kW n) b.1)),(159,AQ (qa (ny (zI jX.kH) mX (sU n))))]) (oz:=pz [] [0] 1 jW j9) (cp:=yj [(57,qe (lW n))]) (uR:=mg [57])
def xK:SX (Mx n) (lS 0 kP) jW 9 oF:=yD
def pI:=fu fun n=>(xK n).1
def CD: ∀n:Nat,qR fC 179 (lS 0 kP) jW true jW (mh mI kP) jW j9 (oF (pI n)):=Rm fun n=>A6 (xK n) (gd (ke (pq (fun b a r h=>(lB n) b.1 r h)) (ke (oP (mr (At n))) kj)) ko (p:=(kx (kL (nV n)) lr))) func179 ntmps179 results179
open Go.Proofs
@[reducible] def Wh:kU (PR TB (T6×T8)):=oI fC f138 n (py fC [.tmp 2] [] [0] 1 jW (mh mI kP)) (cl:=nR [(56,AQ (qa (ny (zI jX.kH) (lM kI.kH) (lG n)))),(59,Aj [0] (vO (za jX.kH) uD) (Om 0 Ln) (vO (za jX.kH) uD) (Nv mI JD) (fun(b:Tc) a=>(kW n) b.1))]) (oz:=pz [] [0] 1 jW j9) (cp:=yj [(57,qe (lW n))]) (uR:=mg [57])
def Dq:SX (Wh n) (lS 0 kP) jW 11 oF:=yD
def xL:=fu fun n=>(Dq n).1
def It: ∀n:Nat,qR fC 138 (lS 0 kP) jW true jW (mh mI kP) jW j9 (oF (xL n)):=Rm fun n=>A6 (Dq n) (gd (ke (oP (mr (lJ n))) (ke (pq (fun b a r h=>(lB n) b.1 r h)) kj)) ko (p:=(kx (kL (nV n)) lr))) func138 ntmps138 results138
@[go_sem]abbrev w9(F:jX->Option Ts)(b:T6)(a:Unit):=F b.1.1
@[go_sem]def HD(F:jX->Option Ts):=uF true [.arg 0 []] jW (lS 0 kP) jW kP jW j9 (w9 F)
@[reducible] def xa:kU Ts:=oI fC f35 n (py fC [] [] [0] 1 jW kP) (oz:=pz [] [0] 1 jW j9) (co:=MW [(56,SK (qa (ny (zI jX.kH) (lM kI.kH) (lG n)))),(57,FR [.arg 0 []] jW (lS 0 (mh mX kP)) jW kP jW j9 (qd (lW n)))]) (vf:=mg [56,57]) (vJ:=mg [])
def R4:tM (xa n) []=true:=jV
def R5:Py (xa n) [] 6 9=true:=jV
def R6:Oi (xa n) [] 9=true:=jV
attribute [go_sem] R4 R5 R6
def By:SX (xa n) (lS 0 kP) jW 12 w9:=yD
def vC:=fu fun n=>(By n).1
def Qp: ∀n:Nat,qR fC 35 (lS 0 kP) jW true jW kP jW j9 (w9 (vC n)):=Rm fun n=>A6 (By n) (gd kj ko (c:=(mP (JG (mr (lJ n))) (mP (xz (nV n)) sQ)))) func35 ntmps35 results35
open Go.Proofs
@[go_sem]abbrev rX(F:jX->Option Tv)(b:T6)(a:Unit):=F b.1.1
@[go_sem]def Iu(F:jX->Option Tv):=uF true [.arg 0 []] jW (lS 0 kP) jW (mh (nP kf.row) kP) jW j9 (rX F)
@[go_sem]def mw:=(lS 0 (alF 288 (vlP 1 (vlP 2 vlN)) kP))
@[go_sem]def kF:=(CH (QV (alC jX.kH 6 kP)) (CH (QV (alA 3 kP)) (CH (QV (lS 0 kP)) (CH (ogA false kf.row) Fv))))
@[go_sem]abbrev mH(F:jX->(List kf)->Option Th)(b:(Tc×(Unit×(Unit×((List kf)×Unit)))))(a:(Unit×Unit)):=F b.1.1 b.2.2.2.1
@[go_sem]def s8(F:jX->(List kf)->Option Th):=uF true [.arg 0 [],.arg 1 [0],.arg 1 [1],.obj 1 0 []] kF mw kF kP kF j9 (mH F)
@[go_sem]def lP:=(CH (QV (alA 2 kP)) (CH (QV (lS 3 kP)) (CH (ogA false kf.row) (CH (QV (alC jX.kH 6 kP)) Fv))))
@[go_sem]abbrev s9(F:(List kf)->jX->Option Tm)(b:(Unit×(Unit×((List kf)×T6))))(a:Unit):=F b.2.2.1 b.2.2.2.1.1
@[go_sem]def Ge(F:(List kf)->jX->Option Tm):=uF true [.arg 0 [],.arg 1 [],.obj 0 0 [],.obj 1 0 []] lP (lS 0 (lS 1 kP)) lP kP lP j9 (s9 F)
structure kY where
 oe:jX->Option Tv
 lw:jX->(List kf)->Option Th
 pP:(List kf)->jX->Option Tm
open Go.Proofs
def HE:yd:=⟨[],[],(zA::zA::zA::zK::zK::zK::wv (mL (mL (mN (mN (zA::zA::zK::zK::mL (mN (zA::zA::[])))))))),[oT jX.kH,oD,oC [zK],oA kf.row],none,none⟩
@[reducible] def pQ(X:kY)(n:Nat):kU Tv:=oI fC f281 n (py fC [.tmp 2] [] [0] 1 jW (mh (nP kf.row) kP)) (cl:=nR [(56,AQ (qa (ny (zI jX.kH) (lM kI.kH) (lG n)))),(58,AQ (qa (ny (zI jX.kH) (nq .i64) (oN n)))),(59,Aj [0] (vO (za jX.kH) uD) (Om 0 Ln) (vO (za jX.kH) uD) (Nv mI JD) (fun(b:Tc) a=>(kW n) b.1)),(122,Aj [0] (vO (za jX.kH) uD) (Om 0 (asT mI Ln)) (vO (za jX.kH) uD) (Nv mX JD) (fun(b:Tc) a=>(lC n) b.1 a.1))]) (rG:=q9 [([0,1,0,1,1,1,1,1,1],HE)]) (cut:=ahb [([1,0,1,0,1,1,1],[3]),([1,1,1,1,1,1,1,1],[3])] [([1,1,0,1,1,1,0,0,1,1],2,0,2,false)]) (oz:=pz [] [0] 1 jW j9) (co:=MW [(74,SK (qa (Vg (zI jX.kH) (nq .i64) mI mX (sS n))))]) (cp:=yj [(60,nJ (lZ n)),(141,w8 (p5 n)),(177,s8 X.lw),(179,mO (pI n))]) (uR:=mg [60,141,177,179]) (vf:=mg [74]) (vJ:=mg [])
def Us(X:kY)(n:Nat):tM (pQ X n) [0,1,1,0,0,1,1]=true:=jV
def Ut(X:kY)(n:Nat):Ej (pQ X n) [0,1,1,0,0,1,1] 0 3 3 5 3 9 3 11/\Ej (pQ X n) [0,1,1,0,0,1,1] 3 15 3 16 3 20 3 24/\Ej (pQ X n) [0,1,1,0,0,1,1] 3 25 3 29 3 31 3 33/\Ej (pQ X n) [0,1,1,0,0,1,1] 3 37 3 41 3 42 3 46/\aqN (pQ X n) [0,1,1,0,0,1,1] 3 48 3 50:=⟨⟨jV,jV,jV,jV⟩,⟨jV,jV,jV,jV⟩,⟨jV,jV,jV,jV⟩,⟨jV,jV,jV,jV⟩,jV,jV⟩
attribute [go_sem] Us Ut HE
@[go_sem]abbrev HF(v0 v1 v2 v3:Int)(o0:jX)(r3:List kf)(c3:Nat):jZ:=⟨(qA::qA::qA:: .ptr 2 0:: .int .i64 v0:: .int .i64 v1::wu (mQ (mQ (mY (mY (qA::qA:: .int .i64 v2:: .int .i64 v3::mQ (mY (qA::qA::[])))))))),[.cells (jX.cells o0),.dead,.cells [.acc 3 c3],.acc false 2 (mp kf.cells r3)],1,[]⟩
@[go_sem]abbrev HG:List Kt:=[.blk 1,.cut [1,1,1,1,1,1,1],.at [1,1,1,1,1,1,1]]
abbrev HH:=Int->Int->Int->Int->jX->(List kf)->Option Tv
abbrev R7(X:kY)(n:Nat)(K:List Kt)(Z:HH):Prop:= ∀v0 v1 v2 v3 o0 r3 c3,c3=r3.length->run (pQ X n) K (HF v0 v1 v2 v3 o0 r3 c3)=Z v0 v1 v2 v3 o0 r3
def ua(X:kY)(n:Nat):LB (R7 X n) [0,1,0,1,1,1,1,1,1] HG:=Cv
def qf(X:kY)(n:Nat):Nat->HH:=yC ((ua X n).1)
def EU(X:kY){n:Nat}:qf X n (m+1)=(ua X n).1 (qf X n m):=rfl
@[go_sem]def Nf(X:kY)(n:Nat)(m:Nat):=BK (ua X n) (qf X n) m
def xY(X:kY)(n:Nat):SX (pQ X n) (lS 0 kP) jW 136 rX:=yD
open Go.Proofs
@[go_sem]def sI:yd:=⟨[],[],(zK::zK::zA::zA::zK::mN (mN (zA::zA::[]))),[oT jX.kH,oC [zK],oC [zK],oA kf.row],none,none⟩
@[reducible] def td(X:kY)(n:Nat):kU Th:=oI fC f177 n (py fC [] [] [0,1,2,3] 4 kF kP) (cl:=nR [(122,Aj [0] (vO (za jX.kH) uD) (Om 0 (asT mI Ln)) (vO (za jX.kH) uD) (Nv mX JD) (fun(b:Tc) a=>(lC n) b.1 a.1))]) (rG:=q9 [([0,1],sI)]) (oz:=pz [] [0,1,2,3] 4 kF j9) (cp:=yj [(72,lu (lj n)),(288,Ge X.pP)]) (uR:=mg [72,288])
@[go_sem]abbrev sJ(v0:Int)(o0:jX)(r3:List kf)(c3:Nat):jZ:=⟨(.ptr 0 0:: .func (.func 288) [] [.ptr 1 0,.ptr 2 0]::qA::qA:: .int .i64 v0::mY (mY (qA::qA::[]))),[.cells (jX.cells o0),.cells [.acc 3 c3],.cells [.ptr 0 0],.acc false 2 (mp kf.cells r3)],4,[]⟩
abbrev sK:=Int->jX->(List kf)->Option Th
abbrev zF(X:kY)(n:Nat)(K:List Kt)(Z:sK):Prop:= ∀v0 o0 r3 c3,c3=r3.length->run (td X n) K (sJ v0 o0 r3 c3)=Z v0 o0 r3
def my(X:kY)(n:Nat):LB (zF X n) [0,1] [.blk 0]:=Cv
def nL(X:kY)(n:Nat):Nat->sK:=yC ((my X n).1)
def rS(X:kY){n:Nat}:nL X n (m+1)=(my X n).1 (nL X n m):=rfl
@[go_sem]def yt(X:kY)(n:Nat)(m:Nat):=BK (my X n) (nL X n) m
def nX(X:kY)(n:Nat):SX (td X n) mw kF 15 mH:=yD
open Go.Proofs
@[reducible] def pV(X:kY)(n:Nat):kU Tm:=oI fC f288 n (py fC [] [] [0,1,2,3] 4 lP kP) (oz:=pz [] [0,1,2,3] 4 lP j9) (co:=MW [(281,FR [.arg 0 []] jW (lS 0 kP) jW (mh (nP kf.row) kP) jW j9 (rX X.oe))]) (vf:=mg [281]) (vJ:=mg [])
def Qq(X:kY)(n:Nat):tM (pV X n) []=true:=jV
def Qr(X:kY)(n:Nat):Ej (pV X n) [] 1 2 0 3 1 3 2 3/\Ej (pV X n) [] 0 4 1 4 2 4 3 4:=⟨⟨jV,jV,jV,jV⟩,jV,jV,jV,jV⟩
def Qs(X:kY)(n:Nat):Ib (pV X n) [] 2 3=true/\Ib (pV X n) [] 2 4=true/\Oi (pV X n) [] 2=false:=⟨jV,jV,jV⟩
attribute [go_sem] Qq Qr Qs
def vY(X:kY)(n:Nat):SX (pV X n) (lS 0 (lS 1 kP)) lP 6 s9:=yD
open Go.Proofs
def kS:Nat->kY
 |0=>⟨Fu.z,Fu.z,Fu.z⟩
 |n+1=>⟨(xY (kS n) n).1,(nX (kS n) n).1,(vY (kS n) n).1⟩
def oe:jX->Option Tv:=(kS n).oe
def Uu{n:Nat}:oe (n+1)=(xY (kS n) n).1:=rfl
def lw:jX->(List kf)->Option Th:=(kS n).lw
def AJ{n:Nat}:lw (n+1)=(nX (kS n) n).1:=rfl
def pP:(List kf)->jX->Option Tm:=(kS n).pP
def Qt{n:Nat}:pP (n+1)=(vY (kS n) n).1:=rfl
def qg{n:Nat}:(kS n).oe=oe n/\(kS n).lw=lw n/\(kS n).pP=pP n:=⟨rfl,rfl,rfl⟩
def vZ: ∀n:Nat,qR fC 281 (lS 0 kP) jW true jW (mh (nP kf.row) kP) jW j9 (rX (kS n).oe)/\qR fC 177 mw kF true kF kP kF j9 (mH (kS n).lw)/\qR fC 288 (lS 0 (lS 1 kP)) lP true lP kP lP j9 (s9 (kS n).pP)
 |0=>⟨fun _ _ _ h=>(by cases h),fun _ _ _ h=>(by cases h),fun _ _ _ h=>(by cases h)⟩
 |n+1=>by
  obtain⟨R8,zG,O7⟩:=vZ n
  exact⟨A6 (xY (kS n) n) (gdM (ke (oP (mr (lJ n))) (ke (oP (mr (rV n))) (ke (pq (fun b a r h=>(lB n) b.1 r h)) (ke (pq (fun b a r h=>(lR n) b.1 a.1 r h)) kj)))) ko (p:=(kx (kL (nY n)) (kx (kL (AI n)) (kx (kL (zG)) (kx (kL (CD n)) lr))))) (c:=(mP (JG (LS (wD n))) sQ))) func281 ntmps281 results281,
   A6 (nX (kS n) n) (gd (ke (pq (fun b a r h=>(lR n) b.1 a.1 r h)) kj) ko (p:=(kx (kL (l7 n)) (kx (kL (O7)) lr)))) func177 ntmps177 results177,
   A6 (vY (kS n) n) (gd kj ko (c:=(mP (xz (R8)) sQ))) func288 ntmps288 results288⟩
def R9:qR fC 281 (lS 0 kP) jW true jW (mh (nP kf.row) kP) jW j9 (rX (oe n)):=(vZ n).1
def Pn:qR fC 177 mw kF true kF kP kF j9 (mH (lw n)):=(vZ n).2.1
def agj:qR fC 288 (lS 0 (lS 1 kP)) lP true lP kP lP j9 (s9 (pP n)):=(vZ n).2.2
open Go.Proofs
@[go_sem]def aaJ:yd:=⟨[],[],(zT (nP jY.row)::zA::zA::zK::zA::zA::zK::mL (mL (mN (mN (zA::zA::zA::[]))))),[oT jY.kH],none,none⟩
@[reducible] def Wi:kU Int:=oI fC f69 n (nH fC [.tmp 4] (nq .i64)) (cl:=nR [(114,ny (lM jY.kH) (nq .i64) (NX n)),(115,uC (lM jY.kH) (lM jY.kH) mX (AF n))]) (cd:=JB [(115,qa (uC (lM jY.kH) (lM jY.kH) mX (AF n))),(116,qa (ny (lM jY.kH) mX (A8 n))),(117,qa (ny (lM jY.kH) mI (IZ n)))]) (rG:=q9 [([0,1,0,1,1,1,1],aaJ)]) (vf:=mg []) (vJ:=mg [])
@[go_sem]def ali:tM (Wi n) [0,0,0,1,0,0,1,0,1,1,1,1]=true:=jV
@[go_sem]abbrev aaK(v0:List jY)(v1:Int)(o0:jY):jZ:=⟨(.mb false 4 (mp jY.cells v0)::qA::qA:: .ptr 0 0::qA::qA:: .int .i64 v1::mQ (mQ (mY (mY (qA::qA::qA::[]))))),[.cells (jY.cells o0)],0,[]⟩
abbrev aaL:=(List jY)->Int->jY->Option Int
abbrev aiF(K:List Kt)(Z:aaL):Prop:= ∀v0 v1 o0,run (Wi n) K (aaK v0 v1 o0)=Z v0 v1 o0
def HI:LB (aiF n) [0,1,0,1,1,1,1] [.blk 0,.cut [1,1,1,1,1],.at [1,1,1,1,1]]:=mB
def DT:Nat->aaL:=yC ((HI n).1)
def Wj{n:Nat}:DT n (m+1)=(HI n).1 (DT n m):=rfl
@[go_sem]def adh(m:Nat):=BK (HI n) (DT n) m
def Wk:SC2 (Wi n) (nP jY.row) (lM jY.kH) 50:=mB
def Xh:=fu fun n=>(Wk n).1
def aiG: ∀n:Nat,GO fC 69 (nP jY.row) (lM jY.kH) (nq .i64) (Xh n):=LX fun n=>Ks (Wk n) (gd (ke (lF (ae5 n)) (ke (pJ (NS n)) kj)) (ng (vh (NS n)) (ng (mr (EG n)) (ng (mr (Ym n)) ko)))) func69 ntmps69 results69
def Yz:yd:=⟨[(15,3,true)],[],(zK::mN (zA::zA::zK::mN (zA::zA::zK::zK::wv (mL (mL (mL [])))))),[oK,oK,oK,oC [zK,zK,zK,zK,zK],oC [zK,zK,zK,zK],oA kI.row],none,none⟩
def YA:yd:=⟨[],[],(zK::mN (zA::zA::zK::mL (mL (zA::zA::zT (nP akQ)::zK::zK::zA::zA::zA::zT (nP nO)::zK::zK::wv (mN (mN (mN (zA::[])))))))),[oK,oK,oK,oC [zK,zK,zK,zK,zK]],none,none⟩
def YB:yd:=⟨[],[],(zK::mN (zA::zA::zK::mL (mL (zA::zA::zT (nP akQ)::zK::zK::wv (mL (zA::zA::zA::[])))))),[oK,oK,oK,oC [zK,zK,zK,zK,zK]],none,none⟩
def YC:yd:=⟨[],[],(zK::zT (nP nO)::mN (zA::zK::mL (zA::zT (nP nO)::zK::zK::wv (mL (mL (mN [])))))),[oK,oK,oK,oC [zK,zK,zK,zK,zK]],none,none⟩
@[reducible] def Bz:kU TG:=oI fC f118 n (nH fC [.tmp 4,.tmp 5,.tmp 6] (ty3 (nP kI.row) (nq .i64) (nq .i64))) (cl:=nR [(148,I1 (Dg n)),(149,ny mI mX (HC n)),(150,aen (nP nO) (JR n)),(151,tO (yE n)),(152,tO (Bm n)),(153,tO (yK n)),(154,tO (yM n)),(155,J6 (uW n)),(156,ny (nq .u8) (nq .i64) (AW n))]) (rG:=q9 [([0,1,0,1,1,1,1,1,1,1],Yz),([0,1,1,0,0,1,1,0,0,1,0,1,1,1],YA),([0,1,0,1,1,1],YB),([0,1,0,1,1],YC)]) (vf:=mg []) (vJ:=mg [])
def aiH:tM (Bz n) [0,1,1,0,0,1,0,0,1,0,1,1,1,1,1,1,1]=true:=jV
def aiI:aqO (Bz n) [0,1,1,0,0,1,0,0,1,0,1,1,1,1,1,1,1] 6 15 8 15 12 15:=⟨jV,jV,jV⟩
attribute [go_sem] aiH aiI Yz YA YB YC
abbrev YD(v0:Str)(r0 r1 r2:List (Str×Bool))(v4:Str)(v5:Int)(r5:List kI)(c5:Nat):jZ:=⟨(.str (sb v0)::mY (qA::qA:: .ptr 3 0::mY (qA::qA:: .ptr 4 0:: .acc 5 c5::wu (mQ (mQ (mQ [])))))),[.map (mp DG r0),.map (mp DG r1),.map (mp DG r2),.cells [.str (sb v4),.int .i64 v5,.map 0,.map 1,.map 2],.cells [.func (.func 151) [.ptr 3 0] [],.func (.func 152) [.ptr 3 0] [],.func (.func 153) [.ptr 3 0] [],.func (.func 154) [.ptr 3 0] []],.acc true 3 (mp kI.cells r5)],0,[]⟩
abbrev YE:List Kt:=[.blk 6,.cut [1,1,1,1,1,1,1,1],.at [1,1,1,1,1,1,1,1]]
abbrev YF:=Str->T9->T9->T9->Str->Int->(List kI)->Option TG
abbrev agk(K:List Kt)(Z:YF):Prop:= ∀v0 r0 r1 r2 v4 v5 r5 c5,c5=r5.length->run (Bz n) K (YD v0 r0 r1 r2 v4 v5 r5 c5)=Z v0 r0 r1 r2 v4 v5 r5
abbrev YG(v0:Str)(v1:List (List Str))(v2 v3:Int)(v4:List Str)(v5 v6:Int)(r0 r1 r2:List (Str×Bool))(v10:Str):jZ:=⟨(.str (sb v0)::mY (qA::qA:: .ptr 3 0::mQ (mQ (qA::qA:: .mb false 1 (mp Vj v1):: .int .i64 v2:: .int .i64 v3::qA::qA::qA:: .mb false 1 (mp nB v4):: .int .i64 v5:: .int .i64 v6::wu (mY (mY (mY (qA::[])))))))),[.map (mp DG r0),.map (mp DG r1),.map (mp DG r2),.cells [.str (sb v10),.int .i64 0,.map 0,.map 1,.map 2]],0,[]⟩
abbrev YH(m3:Nat):List Kt:=[.blk 4,.blk 3,.cut [1,1,1,0,0,1,0,1,1,1],.at [1,1,1,0,0,1,0,1,1,1],.lp m3 [0,1,0,1,1,1],.blk 2,.cut [1,1,1,1],.at [1,1,1,1]]
abbrev YI:=Str->(List (List Str))->Int->Int->(List Str)->Int->Int->T9->T9->T9->Str->Option TG
abbrev agl(K:List Kt)(Z:YI):Prop:= ∀v0 v1 v2 v3 v4 v5 v6 r0 r1 r2 v10,run (Bz n) K (YG v0 v1 v2 v3 v4 v5 v6 r0 r1 r2 v10)=Z v0 v1 v2 v3 v4 v5 v6 r0 r1 r2 v10
abbrev YJ(v0:Str)(v1:List (List Str))(v2 v3:Int)(r0 r1 r2:List (Str×Bool))(v7:Str):jZ:=⟨(.str (sb v0)::mY (qA::qA:: .ptr 3 0::mQ (mQ (qA::qA:: .mb false 1 (mp Vj v1):: .int .i64 v2:: .int .i64 v3::wu (mQ (qA::qA::qA::[])))))),[.map (mp DG r0),.map (mp DG r1),.map (mp DG r2),.cells [.str (sb v7),.int .i64 0,.map 0,.map 1,.map 2]],0,[]⟩
abbrev Jm:=Str->(List (List Str))->Int->Int->T9->T9->T9->Str->Option TG
abbrev O8(K:List Kt)(Z:Jm):Prop:= ∀v0 v1 v2 v3 r0 r1 r2 v7,run (Bz n) K (YJ v0 v1 v2 v3 r0 r1 r2 v7)=Z v0 v1 v2 v3 r0 r1 r2 v7
abbrev YK(v0:Str)(v1 v2:List Str)(v3 v4:Int)(r0 r1 r2:List (Str×Bool))(v8:Str):jZ:=⟨(.str (sb v0):: .mb false 1 (mp nB v1)::mY (qA:: .ptr 3 0::mQ (qA:: .mb false 1 (mp nB v2):: .int .i64 v3:: .int .i64 v4::wu (mQ (mQ (mY [])))))),[.map (mp DG r0),.map (mp DG r1),.map (mp DG r2),.cells [.str (sb v8),.int .i64 0,.map 0,.map 1,.map 2]],0,[]⟩
abbrev YL:=Str->(List Str)->(List Str)->Int->Int->T9->T9->T9->Str->Option TG
abbrev agm(K:List Kt)(Z:YL):Prop:= ∀v0 v1 v2 v3 v4 r0 r1 r2 v8,run (Bz n) K (YK v0 v1 v2 v3 v4 r0 r1 r2 v8)=Z v0 v1 v2 v3 v4 r0 r1 r2 v8
attribute [go_sem] YD YE YG YH YJ YK
def Jn:LB (agk n) [0,1,0,1,1,1,1,1,1,1] YE:=mB
def zx:Nat->YF:=yC ((Jn n).1)
def adi{n:Nat}:zx n (m+1)=(Jn n).1 (zx n m):=rfl
@[go_sem]def Qu(m:Nat):=BK (Jn n) (zx n) m
def EV:LB2 (O8 n) [0,1,0,1,1,1] [.blk 2,.cut [1,1,1,1],.at [1,1,1,1]] (agl n) [0,1,1,0,0,1,1,0,0,1,0,1,1,1] YH:=mB
def xk(X3:Jm):Nat->YI:=yC ((EV n).1 X3)
def Ua{n:Nat}(X3:Jm):xk n X3 (m+1)=(EV n).1 X3 (xk n X3 m):=rfl
def abN{m3:Nat}{X3}(h3:O8 n (.lq m3 [0,1,0,1,1,1]::[.blk 2,.cut [1,1,1,1],.at [1,1,1,1]]) X3)(m:Nat):=an7 (EV n) h3 (xk n X3) m
def B7:LB (O8 n) [0,1,0,1,1,1] [.blk 2,.cut [1,1,1,1],.at [1,1,1,1]]:=by
 apply Subtype.mk;intro m X0 ih v0 v1 v2 v3 r0 r1 r2 v7;simp (config:={maxSteps:=100000000}) only[go_sem,fH,fI,fD,fE,fJ,fK,fM,fN,fO,fF,fL,fP,f118,fG,mixed,Qu n,abN n ih,ih];exact rfl
def tK:Nat->Jm:=yC ((B7 n).1)
def KF{n:Nat}:tK n (m+1)=(B7 n).1 (tK n m):=rfl
@[go_sem]def abO(m:Nat):=BK (B7 n) (tK n) m
def EW:LB (agm n) [0,1,0,1,1] [.blk 0,.cut [1,1,1],.at [1,1,1]]:=mB
def EX:Nat->YL:=yC ((EW n).1)
def Ub{n:Nat}:EX n (m+1)=(EW n).1 (EX n m):=rfl
@[go_sem]def abP(m:Nat):=BK (EW n) (EX n) m
def Sa:SC2 (Bz n) mI (nP nO) 128:=mB
def My:=fu fun n=>(Sa n).1
def agn: ∀n:Nat,GO fC 118 mI (nP nO) (ty3 (nP kI.row) (nq .i64) (nq .i64)) (My n):=LX fun n=>Ks (Sa n) (gd (ke (Cu (NT n)) (ke (lF (TZ n)) (ke (aaa (VF n)) (ke (Cu (PL n)) (ke (Cu (Uo n)) (ke (Cu (Qe n)) (ke (Cu (Qm n)) (ke (Cu (Ur n)) (ke (lF (CU n)) kj))))))))) ko) func118 ntmps118 results118
@[go_sem]def Dr:yd:=⟨[],[],(zK::zA::zA::zK::mN (mN (mN (zA::zA::zA::[])))),[oT jX.kH,oA nO],none,none⟩
@[go_sem]def CE:yd:=⟨[],[],(zK::zA::zA::zL nO::mN (mN (mN (zA::zA::zA::[])))),[oT jX.kH],(some 3),none⟩
@[go_sem]abbrev uz(F:jX->Option TD)(b:T6)(a:Unit):=F b.1.1
@[go_sem]def Eb(F:jX->Option TD):=uF true [.arg 0 []] jW (lS 0 kP) jW (mh (nP nO) kP) jW j9 (uz F)
@[reducible] def uA:kU TD:=oI fC f294 n (py fC [.tmp 2] [] [0] 1 jW (mh (nP nO) kP)) (cl:=nR [(59,Aj [0] (vO (za jX.kH) uD) (Om 0 Ln) (vO (za jX.kH) uD) (Nv mI JD) (fun(b:Tc) a=>(kW n) b.1)),(123,AQ (qa (ny (zI jX.kH) mX (qq n))))]) (rG:=q9 [([0,0,1,1],CE),([0,0,1,1],Dr)]) (oz:=pz [] [0] 1 jW j9) (cp:=yj [(72,lu (lj n)),(119,mO (oo n))]) (uR:=mg [72,119])
@[go_sem]abbrev Ds(o0:jX)(r1:List Str)(c1:Nat):jZ:=⟨(.ptr 0 0::qA::qA:: .acc 1 c1::mY (mY (mY (qA::qA::qA::[])))),[.cells (jX.cells o0),.acc true 1 (mp nB r1)],1,[]⟩
abbrev Dt:=jX->(List Str)->Option TD
abbrev Mz(K:List Kt)(Z:Dt):Prop:= ∀o0 r1 c1,c1=r1.length->run (uA n) K (Ds o0 r1 c1)=Z o0 r1
def q7:LB (Mz n) [0,0,1,1] [.blk 0,.cut [1,1,1],.at [1,1,1]]:=by
 apply Subtype.mk;intro m X0 ih o0 r1 c1 ec1;subst ec1;simp (config:={maxSteps:=100000000}) only[go_sem,fH,fI,fD,fE,fJ,fK,fM,fN,fO,fF,fL,fP,f294,fG,mixed,ih];exact rfl
def ub:Nat->Dt:=yC ((q7 n).1)
def B2{n:Nat}:ub n (m+1)=(q7 n).1 (ub n m):=rfl
def AY(m:Nat):=BK (q7 n) (ub n) m
def xb:{B:Nat->(List Str)->jX->Option TD // ∀(m:Nat)(v0:List Str)(o0:jX),run (uA n) [.at [0,0,0,1,1],.lp m [0,0,1,1],.blk 0,.cut [1,1,1],.at [1,1,1]] ⟨[.ptr 0 0,qA,qA,.mb true 1 (mp nB v0),qA,qA,qA,qA,qA,qA,qA,qA,qA,qA,qA,qA,qA,qA,qA],[.cells (jX.cells o0)],1,[]⟩=B m v0 o0}:=by
 apply Subtype.mk;intro m v0 o0;simp (config:={maxSteps:=100000000}) only[go_sem,fH,fI,fD,fE,fJ,fK,fM,fN,fO,fF,fL,fP,f294,fG,mixed,AY n];exact rfl
def xM:Nat->(List Str)->jX->Option TD
 |0,_,_=>none
 |m+1,v0,o0=>(xb n).1 m v0 o0
def J7: ∀(m:Nat),(∀(v0:List Str)(o0:jX),run (uA n) [.lq m [0,0,1,1],.blk 0,.cut [1,1,1],.at [1,1,1]] ⟨[.ptr 0 0,qA,qA,.mb true 1 (mp nB v0),qA,qA,qA,qA,qA,qA,qA,qA,qA,qA,qA,qA,qA,qA,qA],[.cells (jX.cells o0)],1,[]⟩=xM n m v0 o0)
 |0=>by intros;exact JA
 |m+1=>by
  intro v0 o0;rw[CR];exact(xb n).2 m v0 o0
def yu:SX (uA n) (lS 0 kP) jW 19 uz:=by
 apply Subtype.mk
 repeat (first|refine Prod.forall.2 ?_|intro)
 simp (config:={maxSteps:=100000000}) only[go_sem,fH,fI,fD,fE,fJ,fK,fM,fN,fO,fF,fL,fP,f294,fG,mixed,AY n,J7 n];exact rfl
def we:=fu fun n=>(yu n).1
def MA: ∀n:Nat,qR fC 294 (lS 0 kP) jW true jW (mh (nP nO) kP) jW j9 (uz (we n)):=Rm fun n=>A6 (yu n) (gd (ke (pq (fun b a r h=>(lB n) b.1 r h)) (ke (oP (mr (wY n))) kj)) ko (p:=(kx (kL (l7 n)) (kx (kL (rO n)) lr)))) func294 ntmps294 results294
@[go_sem]def N3:yd:=⟨[],[],(zA::zK::mL (mL (mN (mN (zA::zA::zA::zT (nP nO)::zK::zK::mL (mL (mN (mN (zA::zA::[]))))))))),[oT jY.kH],none,none⟩
@[go_sem]def N4:yd:=⟨[],[],(zA::zK::zA::zK::mN (mN (mN (zA::zA::zA::zT (nP nO)::zK::zK::wv (mN []))))),[oT jY.kH],none,none⟩
@[reducible] def I2:kU Int:=oI fC f242 n (nH fC [.tmp 2] (nq .i64)) (cl:=nR [(149,ny mI mX (HC n)),(244,ny (lM jY.kH) mX (zh n)),(245,ny (lM jY.kH) mX (Aq n)),(260,ny mI mX (Xg n))]) (rG:=q9 [([0,1,0,1,1,1,1,1],N3),([0,1,0,1,1,1],N4)])
@[go_sem]abbrev N5(v0:List Str)(v1 v2:Int)(o0:jY):jZ:=⟨(qA:: .ptr 0 0::mQ (mQ (mY (mY (qA::qA::qA:: .mb false 1 (mp nB v0):: .int .i64 v1:: .int .i64 v2::mQ (mQ (mY (mY (qA::qA::[]))))))))),[.cells (jY.cells o0)],0,[]⟩
abbrev N6:=(List Str)->Int->Int->jY->Option Int
abbrev aaM(K:List Kt)(Z:N6):Prop:= ∀v0 v1 v2 o0,run (I2 n) K (N5 v0 v1 v2 o0)=Z v0 v1 v2 o0
@[go_sem]abbrev N7(v0:Int)(v1:List Str)(v2 v3:Int)(o0:jY):jZ:=⟨(qA:: .ptr 0 0::qA:: .int .i64 v0::mY (mY (mY (qA::qA::qA:: .mb false 1 (mp nB v1):: .int .i64 v2:: .int .i64 v3::wu (mY []))))),[.cells (jY.cells o0)],0,[]⟩
abbrev N8:=Int->(List Str)->Int->Int->jY->Option Int
abbrev aaN(K:List Kt)(Z:N8):Prop:= ∀v0 v1 v2 v3 o0,run (I2 n) K (N7 v0 v1 v2 v3 o0)=Z v0 v1 v2 v3 o0
def yP:LB (aaM n) [0,1,0,1,1,1,1,1] [.blk 2,.cut [1,1,1,1,1,1],.at [1,1,1,1,1,1]]:=mB
def wg:Nat->N6:=yC ((yP n).1)
def K9{n:Nat}:wg n (m+1)=(yP n).1 (wg n m):=rfl
@[go_sem]def Wl(m:Nat):=BK (yP n) (wg n) m
def yQ:LB (aaN n) [0,1,0,1,1,1] [.blk 0,.cut [1,1,1,1],.at [1,1,1,1]]:=mB
def yR:Nat->N8:=yC ((yQ n).1)
def La{n:Nat}:yR n (m+1)=(yQ n).1 (yR n m):=rfl
@[go_sem]def Wm(m:Nat):=BK (yQ n) (yR n) m
def I3:NA (I2 n) (lM jY.kH) 90:=mB
def HJ:=fu fun n=>(I3 n).1
def aaO: ∀n:Nat,xm fC 242 (lM jY.kH) (nq .i64) (HJ n):=Cb fun n=>zd (I3 n) (gd (ke (lF (TZ n)) (ke (lF (DO n)) (ke (lF (G7 n)) (ke (lF (aiC n)) kj)))) ko) func242 ntmps242 results242
open Go.Proofs
@[go_sem]def Wn:yd:=⟨[],[],(zT (nP jY.row)::zA::zA::zK::mN (mN (mN (zA::zA::zA::[])))),[],none,none⟩
@[reducible] def O9:kU Bool:=oI fC f30 n (nH fC [.tmp 2] mX) (cd:=JB [(69,qa (uC (nP jY.row) (lM jY.kH) (nq .i64) (Xh n)))]) (rG:=q9 [([0,1,0,1],Wn)]) (vf:=mg []) (vJ:=mg [])
@[go_sem]def ago:tM (O9 n) [0,0,0,1,0,0,1,0,1]=true:=jV
@[go_sem]abbrev Wo(v0:List jY)(v1:Int):jZ:=⟨(.mb false 4 (mp jY.cells v0)::qA::qA:: .int .i64 v1::mY (mY (mY (qA::qA::qA::[])))),[],0,[]⟩
abbrev AK:=(List jY)->Int->Option Bool
abbrev ae6(K:List Kt)(Z:AK):Prop:= ∀v0 v1,run (O9 n) K (Wo v0 v1)=Z v0 v1
def Du:LB (ae6 n) [0,1,0,1] [.blk 0,.cut [1,1],.at [1,1]]:=mB
def Dv:Nat->AK:=yC ((Du n).1)
def Qv{n:Nat}:Dv n (m+1)=(Du n).1 (Dv n m):=rfl
@[go_sem]def aaP(m:Nat):=BK (Du n) (Dv n) m
def Pa:NA (O9 n) (nP jY.row) 19:=mB
def J8:=fu fun n=>(Pa n).1
def ae7: ∀n:Nat,xm fC 30 (nP jY.row) mX (J8 n):=Cb fun n=>zd (Pa n) (gd kj (ng (vh (aiG n)) ko)) func30 ntmps30 results30
@[go_sem]def zW:=(mh mI (mh (nq .i64) (mh (nq .i64) (mh (nP nO) kP))))
@[go_sem]abbrev BA(F:Str->Int->Int->(List Str)->Option TH)(b:Unit)(a:(Str×(Int×(Int×Tn)))):=F a.1 a.2.1 a.2.2.1 a.2.2.2.1
@[go_sem]def MB(F:Str->Int->Int->(List Str)->Option TH):=uF true [] Fv zW Fv (mh (lM ku.kH) kP) Fv j9 (BA F)
@[reducible] def Zr:kU TH:=oI fC f71 n (py fC [.cell 8 100] [] [] 0 Fv (mh (lM ku.kH) kP)) (cl:=nR [(118,uC mI (nP nO) (ty3 (nP kI.row) (nq .i64) (nq .i64)) (My n))]) (oz:=pz [] [] 0 Fv j9)
def FC:SX (Zr n) zW Fv 33 BA:=yD
def DU:=fu fun n=>(FC n).1
def XO: ∀n:Nat,qR fC 71 zW Fv true Fv (mh (lM ku.kH) kP) Fv j9 (BA (DU n)):=Rm fun n=>A6 (FC n) (gd (ke (pJ (agn n)) kj) ko) func71 ntmps71 results71
@[go_sem]abbrev qy(F:jX->Option TC)(b:T6)(a:Unit):=F b.1.1
@[go_sem]def Cm(F:jX->Option TC):=uF true [.arg 0 []] jW (lS 0 kP) jW (mh (lM j7.kH) kP) jW j9 (qy F)
@[reducible] def Uv:kU TC:=oI fC f274 n (py fC [.cell 2 80] [] [0] 1 jW (mh (lM j7.kH) kP)) (cl:=nR [(122,Aj [0] (vO (za jX.kH) uD) (Om 0 (asT mI Ln)) (vO (za jX.kH) uD) (Nv mX JD) (fun(b:Tc) a=>(lC n) b.1 a.1))]) (oz:=pz [] [0] 1 jW j9) (cp:=yj [(281,Iu (oe n))]) (uR:=mg [281])
def Cn:SX (Uv n) (lS 0 kP) jW 11 qy:=yD
def wG:=fu fun n=>(Cn n).1
def HK: ∀n:Nat,qR fC 274 (lS 0 kP) jW true jW (mh (lM j7.kH) kP) jW j9 (qy (wG n)):=Rm fun n=>A6 (Cn n) (gd (ke (pq (fun b a r h=>(lR n) b.1 a.1 r h)) kj) ko (p:=(kx (kL (R9 n)) lr))) func274 ntmps274 results274
def Iv:yd:=⟨[],[],(zK::wv (mN (mN (mN (zA::zA::zA::zT (nP nO)::zK::zK::mL (zA::zA::[])))))),[oC [zK,zK,zK,zK],oM (lM jY.kH),oM (lM jY.kH),oK],none,none⟩
def Iw:yd:=⟨[],[],(zK::zA::zA::zK::zA::zA::zK::zK::zT (nP nO)::mL (mL (mN (mN (mN (zA::zA::zA::zT (nP nO)::zK::zK::mL (mL (mN (mN (zA::zA::[])))))))))),[oC [zK,zK,zK,zK],oM (lM jY.kH),oM (lM jY.kH),oK,oT jY.kH],none,(some (6,2))⟩
def Ix:yd:=⟨[],[],(zK::zA::zA::zK::zA::zA::zK::zK::zT (nP nO)::mL (mL (mN (mN (mN (zA::zA::zA::zT (nP nO)::zK::zK::mL (mL (mN (mN (zA::zA::[])))))))))),[oC [zK,zK,zK,zK],oM (lM jY.kH),oM (lM jY.kH),oK,oT jY.kH],none,(some (6,1))⟩
@[go_sem]abbrev yS(F:jY->Int->Td->Td->T9->Option TM)(b:T7)(a:(jY×Unit)):=F a.1 b.1.1 b.2.1 b.2.2.1 b.2.2.2.1
@[go_sem]def J9(F:jY->Int->Td->Td->T9->Option TM):=aag [.arg 0 [],.obj 0 0 [],.obj 0 1 [],.obj 0 2 []] k8 (lS 0 (mh (lM jY.kH) kP)) k8 (mh (nq .i64) kP) (yS F)
@[reducible] def yT:kU TM:=oI fC f219 n (CT fC [.tmp 4] [] [0,1,2,3] 4 k8 (mh (nq .i64) kP)) (cl:=nR [(195,uC (nP nO) mI mX (mR n)),(242,ny (lM jY.kH) (nq .i64) (HJ n)),(244,ny (lM jY.kH) mX (zh n))]) (rG:=q9 [([0,1,0,1,1,1,1,1,1,1,1],Iv),([0,1,0,1,1,1,1,1,1],Iw),([0,1,0,1,1,1,1,1,1],Ix)]) (cp:=yj [(243,Ho (C9 n))]) (uR:=mg [243])
attribute [go_sem] Iv Iw Ix
abbrev Iy(v0:List Str)(v1 v2 v3:Int)(r1 r2:List (Str×jY))(r3:List (Str×Bool)):jZ:=⟨(.ptr 0 0::wu (mY (mY (mY (qA::qA::qA:: .mb false 1 (mp nB v0):: .int .i64 v1:: .int .i64 v2::mQ (qA::qA::[])))))),[.cells [.map 1,.map 2,.map 3,.int .i64 v3],.map (mp (KK (lM jY.kH)) r1),.map (mp (KK (lM jY.kH)) r2),.map (mp DG r3)],4,[]⟩
abbrev Iz:List Kt:=[.blk 2,.cut [1,1,1,1,1,1,1,1,1],.at [1,1,1,1,1,1,1,1,1]]
abbrev IA:=(List Str)->Int->Int->Int->Td->Td->T9->Option TM
abbrev Uw(K:List Kt)(Z:IA):Prop:= ∀v0 v1 v2 v3 r1 r2 r3,run (yT n) K (Iy v0 v1 v2 v3 r1 r2 r3)=Z v0 v1 v2 v3 r1 r2 r3
abbrev IB(v0:Str)(v1 v2:List Str)(v3 v4 v5:Int)(r1 r2:List (Str×jY))(r3:List (Str×Bool))(o4:jY):jZ:=⟨(.ptr 0 0::qA::qA:: .ptr 4 0::qA::qA:: .map 2:: .str (sb v0):: .mb false 1 (mp nB v1)::mQ (mQ (mY (mY (mY (qA::qA::qA:: .mb false 1 (mp nB v2):: .int .i64 v3:: .int .i64 v4::mQ (mQ (mY (mY (qA::qA::[])))))))))),[.cells [.map 1,.map 2,.map 3,.int .i64 v5],.map (mp (KK (lM jY.kH)) r1),.map (mp (KK (lM jY.kH)) r2),.map (mp DG r3),.cells (jY.cells o4)],4,[]⟩
abbrev Cp:List Kt:=[.blk 0,.cut [1,1,1,1,1,1,1],.at [1,1,1,1,1,1,1]]
abbrev xZ:=Str->(List Str)->(List Str)->Int->Int->Int->Td->Td->T9->jY->Option TM
abbrev Ux(K:List Kt)(Z:xZ):Prop:= ∀v0 v1 v2 v3 v4 v5 r1 r2 r3 o4,run (yT n) K (IB v0 v1 v2 v3 v4 v5 r1 r2 r3 o4)=Z v0 v1 v2 v3 v4 v5 r1 r2 r3 o4
abbrev IC(v0:Str)(v1 v2:List Str)(v3 v4 v5:Int)(r1 r2:List (Str×jY))(r3:List (Str×Bool))(o4:jY):jZ:=⟨(.ptr 0 0::qA::qA:: .ptr 4 0::qA::qA:: .map 1:: .str (sb v0):: .mb false 1 (mp nB v1)::mQ (mQ (mY (mY (mY (qA::qA::qA:: .mb false 1 (mp nB v2):: .int .i64 v3:: .int .i64 v4::mQ (mQ (mY (mY (qA::qA::[])))))))))),[.cells [.map 1,.map 2,.map 3,.int .i64 v5],.map (mp (KK (lM jY.kH)) r1),.map (mp (KK (lM jY.kH)) r2),.map (mp DG r3),.cells (jY.cells o4)],4,[]⟩
abbrev Uy(K:List Kt)(Z:xZ):Prop:= ∀v0 v1 v2 v3 v4 v5 r1 r2 r3 o4,run (yT n) K (IC v0 v1 v2 v3 v4 v5 r1 r2 r3 o4)=Z v0 v1 v2 v3 v4 v5 r1 r2 r3 o4
attribute [go_sem] Iy Iz IB Cp IC
def uI:LB (Uw n) [0,1,0,1,1,1,1,1,1,1,1] Iz:=Cv
def rZ:Nat->IA:=yC ((uI n).1)
def Gf{n:Nat}:rZ n (m+1)=(uI n).1 (rZ n m):=rfl
@[go_sem]def Pb(m:Nat):=BK (uI n) (rZ n) m
def uJ:LB (Ux n) [0,1,0,1,1,1,1,1,1] Cp:=Cv
def uK:Nat->xZ:=yC ((uJ n).1)
def Gg{n:Nat}:uK n (m+1)=(uJ n).1 (uK n m):=rfl
@[go_sem]def Pc(m:Nat):=BK (uJ n) (uK n) m
def uL:LB (Uy n) [0,1,0,1,1,1,1,1,1] Cp:=Cv
def uM:Nat->xZ:=yC ((uL n).1)
def Gh{n:Nat}:uM n (m+1)=(uL n).1 (uM n m):=rfl
@[go_sem]def Pd(m:Nat):=BK (uL n) (uM n) m
def Dw:SX (yT n) (lS 0 (mh (lM jY.kH) kP)) k8 101 yS:=yD
def BB:=fu fun n=>(Dw n).1
def Uz: ∀n:Nat,Xt fC 219 (lS 0 (mh (lM jY.kH) kP)) k8 k8 (mh (nq .i64) kP) (yS (BB n)):=abw fun n=>abv (Dw n) (gd (ke (pJ (D6 n)) (ke (lF (aaO n)) (ke (lF (DO n)) kj))) ko (p:=(kx (kL (P2 n)) lr))) func219 ntmps219 results219
open Go.Proofs
@[go_sem]def aaQ:yd:=⟨[],[],(zT (nP jY.row)::zA::zA::zK::zK::mL (mL (mL (mN (zA::[]))))),[],none,none⟩
@[go_sem]def aaR:yd:=⟨[],[],(zT (nP jY.row)::zA::zA::zK::mL (mL (mL (mN (zA::zA::[]))))),[],none,none⟩
@[reducible] def Wp:kU Bool:=oI fC f12 n (nH fC [.tmp 2] mX) (cl:=nR [(30,ny (nP jY.row) mX (J8 n))]) (rG:=q9 [([0,1,1,0,0,1,0,0,1,0,1],aaQ),([0,1,0,1],aaR)])
abbrev aaS(v0:List jY)(v1 v2:Int):jZ:=⟨(.mb false 4 (mp jY.cells v0)::qA::qA:: .int .i64 v1:: .int .i64 v2::mQ (mQ (mQ (mY (qA::[]))))),[],0,[]⟩
abbrev aaT(m2:Nat):List Kt:=[.blk 2,.blk 1,.cut [1,1,0,0,1,0,1],.at [1,1,0,0,1,0,1],.lp m2 [0,1,0,1],.blk 0,.cut [1,1],.at [1,1]]
abbrev aaU:=(List jY)->Int->Int->Option Bool
abbrev aiJ(K:List Kt)(Z:aaU):Prop:= ∀v0 v1 v2,run (Wp n) K (aaS v0 v1 v2)=Z v0 v1 v2
abbrev aaV(v0:List jY)(v1:Int):jZ:=⟨(.mb false 4 (mp jY.cells v0)::qA::qA:: .int .i64 v1::mQ (mQ (mQ (mY (qA::qA::[]))))),[],0,[]⟩
abbrev Sb(K:List Kt)(Z:AK):Prop:= ∀v0 v1,run (Wp n) K (aaV v0 v1)=Z v0 v1
attribute [go_sem] aaS aaT aaV
def HL:LB2 (Sb n) [0,1,0,1] [.blk 0,.cut [1,1],.at [1,1]] (aiJ n) [0,1,1,0,0,1,0,0,1,0,1] aaT:=mB
def Lu(X2:AK):Nat->aaU:=yC ((HL n).1 X2)
def Wq{n:Nat}(X2:AK):Lu n X2 (m+1)=(HL n).1 X2 (Lu n X2 m):=rfl
def adk{m2:Nat}{X2}(h2:Sb n (.lq m2 [0,1,0,1]::[.blk 0,.cut [1,1],.at [1,1]]) X2)(m:Nat):=an7 (HL n) h2 (Lu n X2) m
def HM:LB (Sb n) [0,1,0,1] [.blk 0,.cut [1,1],.at [1,1]]:=by
 apply Subtype.mk;intro m X0 ih v0 v1;simp (config:={maxSteps:=100000000}) only[go_sem,fH,fI,fD,fE,fJ,fK,fM,fN,fO,fF,fL,fP,f12,fG,mixed,adk n ih,ih];exact rfl
def DV:Nat->AK:=yC ((HM n).1)
def Wr{n:Nat}:DV n (m+1)=(HM n).1 (DV n m):=rfl
@[go_sem]def adl(m:Nat):=BK (HM n) (DV n) m
def Ws:NA (Wp n) (nP jY.row) 58:=mB
def Xi:=fu fun n=>(Ws n).1
def aiK: ∀n:Nat,xm fC 12 (nP jY.row) mX (Xi n):=Cb fun n=>zd (Ws n) (gd (ke (lF (ae7 n)) kj) ko) func12 ntmps12 results12
@[go_sem]def zX:=(mh mI (mh (nq .i64) (mh (nq .i64) (mh (nP jY.row) kP))))
@[go_sem]abbrev BC(F:Str->Int->Int->(List jY)->Option TS)(b:Unit)(a:(Str×(Int×(Int×((List jY)×Unit))))):=F a.1 a.2.1 a.2.2.1 a.2.2.2.1
@[go_sem]def MC(F:Str->Int->Int->(List jY)->Option TS):=uF true [] Fv zX jW (lS 0 kP) Fv j9 (BC F)
@[reducible] def Zs:kU TS:=oI fC f33 n (py fC [.tmp 8] [.arg 0 []] [] 0 jW (lS 0 kP)) (cl:=nR [(70,ny (nP jY.row) (nP nO) (Am n))]) (oz:=pz [] [] 0 Fv j9) (cp:=yj [(71,MB (DU n))]) (uR:=mg [71])
def BD:SX (Zs n) zX Fv 21 BC:=yD
def xn:=fu fun n=>(BD n).1
def XP: ∀n:Nat,qR fC 33 zX Fv true jW (lS 0 kP) Fv j9 (BC (xn n)):=Rm fun n=>A6 (BD n) (gd (ke (lF (Xz n)) kj) ko (p:=(kx (kL (XO n)) lr))) func33 ntmps33 results33
@[go_sem]def mE:=(CH (QV (alA 2 kP)) (CH (QV (lS 3 kP)) (CH (ogA true j7.row) (CH (QV (alC jX.kH 6 kP)) Fv))))
@[go_sem]abbrev va(F:Tj->jX->Option TA)(b:(Unit×(Unit×(Tj×T6))))(a:Unit):=F b.2.2.1 b.2.2.2.1.1
@[go_sem]def EY(F:Tj->jX->Option TA):=uF true [.arg 0 [],.arg 1 [],.obj 0 0 [],.obj 1 0 []] mE (lS 0 (lS 1 kP)) mE kP mE j9 (va F)
@[reducible] def oG:kU TA:=oI fC f273 n (py fC [] [] [0,1,2,3] 4 mE kP) (oz:=pz [] [0,1,2,3] 4 mE j9) (co:=MW [(274,FR [.arg 0 []] jW (lS 0 kP) jW (mh (lM j7.kH) kP) jW j9 (qy (wG n)))]) (vf:=mg [274]) (vJ:=mg [])
def Pe:tM (oG n) []=true:=jV
def Pf:Ej (oG n) [] 1 2 0 4 1 4 2 4/\Ej (oG n) [] 0 5 1 5 2 5 4 5:=⟨⟨jV,jV,jV,jV⟩,jV,jV,jV,jV⟩
def Pg:Ib (oG n) [] 2 3=true/\Ib (oG n) [] 2 4=true/\Ib (oG n) [] 2 5=true/\Oi (oG n) [] 2=false:=⟨jV,jV,jV,jV⟩
attribute [go_sem] Pe Pf Pg
def zy:SX (oG n) (lS 0 (lS 1 kP)) mE 7 va:=yD
def BE:=fu fun n=>(zy n).1
def Ng: ∀n:Nat,qR fC 273 (lS 0 (lS 1 kP)) mE true mE kP mE j9 (va (BE n)):=Rm fun n=>A6 (zy n) (gd kj ko (c:=(mP (xz (HK n)) sQ))) func273 ntmps273 results273
@[reducible] def XQ:kU TC:=oI fC f268 n (py fC [.cell 2 80] [] [0] 1 jW (mh (lM j7.kH) kP)) (cl:=nR [(56,AQ (qa (ny (zI jX.kH) (lM kI.kH) (lG n)))),(59,Aj [0] (vO (za jX.kH) uD) (Om 0 Ln) (vO (za jX.kH) uD) (Nv mI JD) (fun(b:Tc) a=>(kW n) b.1)),(122,Aj [0] (vO (za jX.kH) uD) (Om 0 (asT mI Ln)) (vO (za jX.kH) uD) (Nv mX JD) (fun(b:Tc) a=>(lC n) b.1 a.1)),(159,AQ (qa (ny (zI jX.kH) mX (sU n))))]) (oz:=pz [] [0] 1 jW j9) (cp:=yj [(60,nJ (lZ n)),(141,w8 (p5 n)),(274,Cm (wG n))]) (uR:=mg [60,141,274])
def Eu:SX (XQ n) (lS 0 kP) jW 47 qy:=yD
def CF:=fu fun n=>(Eu n).1
def Wt: ∀n:Nat,qR fC 268 (lS 0 kP) jW true jW (mh (lM j7.kH) kP) jW j9 (qy (CF n)):=Rm fun n=>A6 (Eu n) (gd (ke (oP (mr (lJ n))) (ke (pq (fun b a r h=>(lB n) b.1 r h)) (ke (pq (fun b a r h=>(lR n) b.1 a.1 r h)) (ke (oP (mr (At n))) kj)))) ko (p:=(kx (kL (nY n)) (kx (kL (AI n)) (kx (kL (HK n)) lr))))) func268 ntmps268 results268
@[go_sem]def Lb:yd:=⟨[],[],(mN (zK::zA::zA::zA::zT (nP jY.row)::zK::zK::mN (mN (zA::[])))),[oC [zK,zK,zK,zK],oM (lM jY.kH),oM (lM jY.kH),oK],none,none⟩
@[go_sem]def zY:=(alK (.raw (.pointer none)) aBm (alK (.bool false) ape kP))
@[go_sem]abbrev BF(F:(List jY)->Option TK)(b:Unit)(a:((List jY)×Unit)):=F a.1
@[go_sem]def MD(F:(List jY)->Option TK):=uF false [] Fv (mh (nP jY.row) kP) Fv zY k8 (lS 0 (alK (.bool true) ape kP)) (BF F)
@[reducible] def ME:kU TK:=oI fC f197 n (aam fC [.tmp 2,.tmp 3] [] [] 0 Fv zY [.arg 0 [],.obj 0 0 [],.obj 0 1 [],.obj 0 2 []] k8 (lS 0 (alK (.bool true) ape kP))) (cl:=nR [(218,KT (CA n)),(219,J9 (BB n))]) (rG:=q9 [([0,1,0,1,1],Lb)])
@[go_sem]abbrev Lc(v0:List jY)(v1 v2 v3:Int)(r1 r2:List (Str×jY))(r3:List (Str×Bool)):jZ:=⟨(mY (.ptr 0 0::qA::qA::qA:: .mb false 4 (mp jY.cells v0):: .int .i64 v1:: .int .i64 v2::mY (mY (qA::[])))),[.cells [.map 1,.map 2,.map 3,.int .i64 v3],.map (mp (KK (lM jY.kH)) r1),.map (mp (KK (lM jY.kH)) r2),.map (mp DG r3)],0,[]⟩
abbrev Ld:=(List jY)->Int->Int->Int->Td->Td->T9->Option TK
abbrev XR(K:List Kt)(Z:Ld):Prop:= ∀v0 v1 v2 v3 r1 r2 r3,run (ME n) K (Lc v0 v1 v2 v3 r1 r2 r3)=Z v0 v1 v2 v3 r1 r2 r3
def wH:LB (XR n) [0,1,0,1,1] [.blk 0,.cut [1,1,1],.at [1,1,1]]:=mB
def wI:Nat->Ld:=yC ((wH n).1)
def ID{n:Nat}:wI n (m+1)=(wH n).1 (wI n m):=rfl
@[go_sem]def Sc(m:Nat):=BK (wH n) (wI n) m
def FD:SX (ME n) (mh (nP jY.row) kP) Fv 20 BF:=mC
def DW:=fu fun n=>(FD n).1
def XS: ∀n:Nat,qR fC 197 (mh (nP jY.row) kP) Fv false Fv zY k8 (lS 0 (alK (.bool true) ape kP)) (BF (DW n)):=Rm fun n=>aBq (FD n) (gd (ke (Cu (Vu n)) (ke (Cu (Uz n)) kj)) ko) func197 ntmps197 results197
open Go.Proofs
@[go_sem]def sv:yd:=⟨[],[],(zK::zK::zA::zA::zK::mN (mN (zA::zA::[]))),[oT jX.kH,oC [zK],oC [zK],oA j7.row],none,none⟩
@[go_sem]def nE:=(lS 0 (alF 273 (vlP 1 (vlP 2 vlN)) kP))
@[go_sem]def kQ:=(CH (QV (alC jX.kH 6 kP)) (CH (QV (alA 3 kP)) (CH (QV (lS 0 kP)) (CH (ogA true j7.row) Fv))))
@[go_sem]abbrev nM(F:jX->Tj->Option Tt)(b:(Tc×(Unit×(Unit×(Tj×Unit)))))(a:(Unit×Unit)):=F b.1.1 b.2.2.2.1
@[go_sem]def sL(F:jX->Tj->Option Tt):=uF true [.arg 0 [],.arg 1 [0],.arg 1 [1],.obj 1 0 []] kQ nE kQ kP kQ j9 (nM F)
@[reducible] def sM:kU Tt:=oI fC f177 n (py fC [] [] [0,1,2,3] 4 kQ kP) (cl:=nR [(122,Aj [0] (vO (za jX.kH) uD) (Om 0 (asT mI Ln)) (vO (za jX.kH) uD) (Nv mX JD) (fun(b:Tc) a=>(lC n) b.1 a.1))]) (rG:=q9 [([0,1],sv)]) (oz:=pz [] [0,1,2,3] 4 kQ j9) (cp:=yj [(72,lu (lj n)),(273,EY (BE n))]) (uR:=mg [72,273])
@[go_sem]abbrev sw(v0:Int)(o0:jX)(r3:List j7)(c3:Nat):jZ:=⟨(.ptr 0 0:: .func (.func 273) [] [.ptr 1 0,.ptr 2 0]::qA::qA:: .int .i64 v0::mY (mY (qA::qA::[]))),[.cells (jX.cells o0),.cells [.acc 3 c3],.cells [.ptr 0 0],.acc true 2 (mp j7.cells r3)],4,[]⟩
abbrev sx:=Int->jX->Tj->Option Tt
abbrev zz(K:List Kt)(Z:sx):Prop:= ∀v0 o0 r3 c3,c3=r3.length->run (sM n) K (sw v0 o0 r3 c3)=Z v0 o0 r3
def mj:LB (zz n) [0,1] [.blk 0]:=Cv
def mm:Nat->sx:=yC ((mj n).1)
def rP{n:Nat}:mm n (m+1)=(mj n).1 (mm n m):=rfl
@[go_sem]def yc(m:Nat):=BK (mj n) (mm n) m
def pM:SX (sM n) nE kQ 15 nM:=yD
def pZ:=fu fun n=>(pM n).1
def zB: ∀n:Nat,qR fC 177 nE kQ true kQ kP kQ j9 (nM (pZ n)):=Rm fun n=>A6 (pM n) (gd (ke (pq (fun b a r h=>(lR n) b.1 a.1 r h)) kj) ko (p:=(kx (kL (l7 n)) (kx (kL (Ng n)) lr)))) func177 ntmps177 results177
@[reducible] def Qw:kU TJ:=oI fC f164 n (awz (LV [(198,Ic [.arg 0 [],.arg 1 [],.arg 2 [],.arg 3 [],.obj 0 0 [],.obj 4 0 [],.obj 5 0 [],.obj 5 1 [],.obj 5 2 []] kw (lS 0 (lS 1 (lS 2 (lS 3 kP)))) kw kP (fun(b:Tf)(a:Unit)=>(wB n) b.2.1.1 b.2.2.1.1 b.2.2.2.1.1 b.2.2.2.2.1.1 b.2.2.2.2.1.2.1 b.2.2.2.2.2.1.1 b.2.2.2.2.2.2.1 b.2.2.2.2.2.2.2.1 b.2.2.2.2.2.2.2.2.1))]) (LV [(198,Ic [.arg 0 [],.arg 1 [],.arg 2 [],.arg 3 [],.obj 0 0 [],.obj 4 0 [],.obj 5 0 [],.obj 5 1 [],.obj 5 2 []] kw rz kw kP (fun(b:Tf)(a:(Unit×Unit))=>(ui n) a.1 b.2.1.1 b.2.2.1.1 b.2.2.2.1.1 b.2.2.2.2.1.1 b.2.2.2.2.1.2.1 b.2.2.2.2.2.1.1 b.2.2.2.2.2.2.1 b.2.2.2.2.2.2.2.1 b.2.2.2.2.2.2.2.2.1))]) fC [.cell 4 29,.cell 5 3,.cell 6 30] (ty3 (lM Syntax.kH) (nq .i64) (nq .i64))) (oz:=apa (LV [(198,Ic [.arg 0 [],.arg 1 [],.arg 2 [],.arg 3 [],.obj 0 0 [],.obj 4 0 [],.obj 5 0 [],.obj 5 1 [],.obj 5 2 []] kw (lS 0 (lS 1 (lS 2 (lS 3 kP)))) kw kP (fun(b:Tf)(a:Unit)=>(wB n) b.2.1.1 b.2.2.1.1 b.2.2.2.1.1 b.2.2.2.2.1.1 b.2.2.2.2.1.2.1 b.2.2.2.2.2.1.1 b.2.2.2.2.2.2.1 b.2.2.2.2.2.2.2.1 b.2.2.2.2.2.2.2.2.1))]) (LV [(198,Ic [.arg 0 [],.arg 1 [],.arg 2 [],.arg 3 [],.obj 0 0 [],.obj 4 0 [],.obj 5 0 [],.obj 5 1 [],.obj 5 2 []] kw rz kw kP (fun(b:Tf)(a:(Unit×Unit))=>(ui n) a.1 b.2.1.1 b.2.2.1.1 b.2.2.2.1.1 b.2.2.2.2.1.1 b.2.2.2.2.1.2.1 b.2.2.2.2.2.1.1 b.2.2.2.2.2.2.1 b.2.2.2.2.2.2.2.1 b.2.2.2.2.2.2.2.2.1))]) fC [.cell 4 29,.cell 5 3,.cell 6 30] (ty3 (lM Syntax.kH) (nq .i64) (nq .i64))) (cp:=yj [(197,MD (DW n)),(199,wW (mG n))]) (uR:=mg [197,199])
def I4:{B:(List jY)->(List Syntax)->Option TJ // ∀(a0:(List jY))(a1:(List Syntax)),run (Qw n) [.at []] (ini [(nP jY.row).enc a0,(nP Syntax.row).enc a1] 42)=B a0 a1}:=Cv
def uc:=fu fun n=>(I4 n).1
def aaW: ∀(n:Nat)(a0:(List jY))(a1:(List Syntax))(r:TJ),uc n a0 a1=some r->IR fC 164 [(nP jY.row).enc a0,(nP Syntax.row).enc a1] (fun v=>v=(ty3 (lM Syntax.kH) (nq .i64) (nq .i64)).enc r)
 |0,_,_,_,h=>by cases h
 |n+1,a0,a1,r,h=>by
  exact akW (M:=Qw n) (t:=(ty3 (lM Syntax.kH) (nq .i64) (nq .i64))) (cr:=(LV [(198,Ic [.arg 0 [],.arg 1 [],.arg 2 [],.arg 3 [],.obj 0 0 [],.obj 4 0 [],.obj 5 0 [],.obj 5 1 [],.obj 5 2 []] kw (lS 0 (lS 1 (lS 2 (lS 3 kP)))) kw kP (fun(b:Tf)(a:Unit)=>(wB n) b.2.1.1 b.2.2.1.1 b.2.2.2.1.1 b.2.2.2.2.1.1 b.2.2.2.2.1.2.1 b.2.2.2.2.2.1.1 b.2.2.2.2.2.2.1 b.2.2.2.2.2.2.2.1 b.2.2.2.2.2.2.2.2.1))])) (cp:=(LV [(198,Ic [.arg 0 [],.arg 1 [],.arg 2 [],.arg 3 [],.obj 0 0 [],.obj 4 0 [],.obj 5 0 [],.obj 5 1 [],.obj 5 2 []] kw rz kw kP (fun(b:Tf)(a:(Unit×Unit))=>(ui n) a.1 b.2.1.1 b.2.2.1.1 b.2.2.2.1.1 b.2.2.2.2.1.1 b.2.2.2.2.1.2.1 b.2.2.2.2.2.1.1 b.2.2.2.2.2.2.1 b.2.2.2.2.2.2.2.1 b.2.2.2.2.2.2.2.2.1))])) ⟨kj,ko,qS _,rq _,vg,vi,(kx (kL (XS n)) (kx (kL (Qk n)) lr)),wm⟩ (GN (PE abi (fun _ _ _ _=>rfl) (jV) (fun b a r h=>(Rw n) b.2.1.1 b.2.2.1.1 b.2.2.2.1.1 b.2.2.2.2.1.1 b.2.2.2.2.1.2.1 b.2.2.2.2.2.1.1 b.2.2.2.2.2.2.1 b.2.2.2.2.2.2.2.1 b.2.2.2.2.2.2.2.2.1 r h)) JF) (GN (PE abj (fun _ _ _ _=>rfl) (jV) (fun b a r h=>(Rx n) a.1 b.2.1.1 b.2.2.1.1 b.2.2.2.1.1 b.2.2.2.2.1.1 b.2.2.2.2.1.2.1 b.2.2.2.2.2.1.1 b.2.2.2.2.2.2.1 b.2.2.2.2.2.2.2.1 b.2.2.2.2.2.2.2.2.1 r h)) JF) func164 rfl rfl ⟨(nP jY.row).nb 0 _,(nP Syntax.row).nb 0 _,trivial⟩ ntmps164 results164 rfl rfl (((I4 n).2 a0 a1).trans h)
open Go.Proofs
@[go_sem]abbrev xc(F:jX->Option TO)(b:T6)(a:Unit):=F b.1.1
@[go_sem]def HN(F:jX->Option TO):=uF true [.arg 0 []] jW (lS 0 kP) jW (mh (nP j7.row) kP) jW j9 (xc F)
@[reducible] def Sd:kU TO:=oI fC f267 n (py fC [.tmp 2] [] [0] 1 jW (mh (nP j7.row) kP)) (cl:=nR [(122,Aj [0] (vO (za jX.kH) uD) (Om 0 (asT mI Ln)) (vO (za jX.kH) uD) (Nv mX JD) (fun(b:Tc) a=>(lC n) b.1 a.1))]) (cut:=ahb [] [([1,1,1],2,0,2,true)]) (oz:=pz [] [0] 1 jW j9) (cp:=yj [(60,nJ (lZ n)),(177,sL (pZ n))]) (uR:=mg [60,177])
def BG:SX (Sd n) (lS 0 kP) jW 19 xc:=yD
def yU:=fu fun n=>(BG n).1
def Qx: ∀n:Nat,qR fC 267 (lS 0 kP) jW true jW (mh (nP j7.row) kP) jW j9 (xc (yU n)):=Rm fun n=>A6 (BG n) (gdM (ke (pq (fun b a r h=>(lR n) b.1 a.1 r h)) kj) ko (p:=(kx (kL (nY n)) (kx (kL (zB n)) lr)))) func267 ntmps267 results267
open Go.Proofs
@[go_sem]abbrev kM(F:jX->Option Tb)(b:T6)(a:Unit):=F b.1.1
@[go_sem]def l5(F:jX->Option Tb):=uF true [.arg 0 []] jW (lS 0 kP) jW (mh (lM Syntax.kH) kP) jW j9 (kM F)
@[go_sem]abbrev oh(F:Int->jX->Option Tb)(b:T6)(a:(Int×Unit)):=F a.1 b.1.1
@[go_sem]def zZ(F:Int->jX->Option Tb):=uF true [.arg 0 []] jW (lS 0 (mh (nq .i64) kP)) jW (mh (lM Syntax.kH) kP) jW j9 (oh F)
@[go_sem]abbrev rD(F:Str->Str->jX->Option Tq)(b:T6)(a:(Str×(Str×Unit))):=F a.1 a.2.1 b.1.1
@[go_sem]def HO(F:Str->Str->jX->Option Tq):=uF true [.arg 0 []] jW (lS 0 (mh mI (mh mI kP))) jW (mh (nP kg.row) kP) jW j9 (rD F)
@[go_sem]abbrev ue(F:Syntax->jX->Option Tb)(b:T6)(a:(Syntax×Unit)):=F a.1 b.1.1
@[go_sem]def HP(F:Syntax->jX->Option Tb):=uF true [.arg 0 []] jW (lS 0 (mh (lM Syntax.kH) kP)) jW (mh (lM Syntax.kH) kP) jW j9 (ue F)
@[go_sem]def kE:=(CH (QV (alC jX.kH 6 kP)) (CH (QV (alC Syntax.kH 8 kP)) Fv))
@[go_sem]abbrev nK(F:jX->Syntax->Option Te)(b:(Tc×((Syntax×Unit)×Unit)))(a:Unit):=F b.1.1 b.2.1.1
@[go_sem]def vD(F:jX->Syntax->Option Te):=uF true [.arg 0 [],.arg 1 []] kE (lS 0 (lS 1 kP)) kE kP kE j9 (nK F)
@[go_sem]abbrev tf(F:jX->Option TE)(b:T6)(a:Unit):=F b.1.1
@[go_sem]def AM(F:jX->Option TE):=uF true [.arg 0 []] jW (lS 0 kP) jW (mh (nP Syntax.row) kP) jW j9 (tf F)
@[go_sem]def qt:=(lS 0 (mh (lM Syntax.kH) (mh (nP kg.row) (mh mI kP))))
@[go_sem]abbrev qM(F:Syntax->Tx->Str->jX->Option Tb)(b:T6)(a:(Syntax×(Tx×(Str×Unit)))):=F a.1 a.2.1 a.2.2.1 b.1.1
@[go_sem]def Qy(F:Syntax->Tx->Str->jX->Option Tb):=uF true [.arg 0 []] jW qt jW (mh (lM Syntax.kH) kP) jW j9 (qM F)
structure j8 where
 kD:jX->Option Tb
 qF:Int->jX->Option Tb
 mV:Str->Str->jX->Option Tq
 qG:Int->jX->Option Tb
 pT:Int->jX->Option Tb
 pW:jX->Option Tb
 n7:jX->Option Tb
 pY:jX->Option Tb
 oO:jX->Option Tb
 oZ:jX->Option Tb
 oH:Syntax->jX->Option Tb
 qh:jX->Syntax->Option Te
 nZ:jX->Option TE
 mS:jX->Option Tb
 k9:jX->Option Tb
 o9:jX->Syntax->Option Te
 pU:jX->Syntax->Option Te
 n5:Syntax->Tx->Str->jX->Option Tb
open Go.Proofs
@[reducible] def lc(X:j8)(n:Nat):kU Tb:=oI fC f34 n (aeD (LV [(73,Ic [.arg 0 [],.obj 0 0 []] kZ (lS 0 kP) kZ kP (fun(b:(Unit×T6))(a:Unit)=>(nf n) b.2.1.1))]) (py fC [.cell 2 29] [] [0] 1 jW (mh (lM Syntax.kH) kP)) (pz [] [0] 1 jW j9)) (cl:=nR [(58,AQ (qa (ny (zI jX.kH) (nq .i64) (oN n)))),(59,Aj [0] (vO (za jX.kH) uD) (Om 0 Ln) (vO (za jX.kH) uD) (Nv mI JD) (fun(b:Tc) a=>(kW n) b.1)),(74,AQ (qa (Vg (zI jX.kH) (nq .i64) mI mX (sS n)))),(79,AQ (qa (uC (zI jX.kH) mI mX (mF n))))]) (oz:=aeE (LV [(73,Ic [.arg 0 [],.obj 0 0 []] kZ (lS 0 kP) kZ kP (fun(b:(Unit×T6))(a:Unit)=>(nf n) b.2.1.1))]) (py fC [.cell 2 29] [] [0] 1 jW (mh (lM Syntax.kH) kP)) (pz [] [0] 1 jW j9)) (co:=MW [(72,FR [.arg 0 []] jW (lS 0 (mh (nq .i64) kP)) jW kP jW j9 (ol (lj n))),(77,FR [.arg 0 []] jW qt jW (mh (lM Syntax.kH) kP) jW j9 (qM X.n5)),(78,FR [.arg 0 []] jW (lS 0 (mh mI (mh mI kP))) jW (mh (nP kg.row) kP) jW j9 (rD X.mV))]) (cp:=yj [(75,zZ X.qF),(76,zZ X.qG),(80,zZ X.pT)]) (uR:=mg [75,76,80]) (vf:=mg [72,77,78]) (vJ:=mg [])
def Wu(X:j8)(n:Nat):an6 (lc X n) [0,0,1,1,1,1,1,1,1,0,0,1,1,1,1,1] [0,0,1,1,1,1,1,1,1,1,1,0,0,1,1,1,1,1] [0,1] [0,1,0,1,1,1,1,1,0,0,1,1,1,1,1]:=⟨jV,jV,jV,jV⟩
def Wv(X:j8)(n:Nat):Ej (lc X n) [0,0,1,1,1,1,1,1,1,0,0,1,1,1,1,1] 3 4 0 5 3 5 4 5/\Ej (lc X n) [0,0,1,1,1,1,1,1,1,0,0,1,1,1,1,1] 0 6 3 6 4 6 5 6/\Ej (lc X n) [0,0,1,1,1,1,1,1,1,1,1,0,0,1,1,1,1,1] 3 4 0 5 3 5 4 5/\Ej (lc X n) [0,0,1,1,1,1,1,1,1,1,1,0,0,1,1,1,1,1] 0 6 3 6 4 6 5 6/\aqO (lc X n) [0,1] 0 7 3 7 6 7/\Ej (lc X n) [0,1,0,1,1,1,1,1,0,0,1,1,1,1,1] 3 4 0 5 3 5 4 5/\Ej (lc X n) [0,1,0,1,1,1,1,1,0,0,1,1,1,1,1] 0 6 3 6 4 6 5 6:=⟨⟨jV,jV,jV,jV⟩,⟨jV,jV,jV,jV⟩,⟨jV,jV,jV,jV⟩,⟨jV,jV,jV,jV⟩,⟨jV,jV,jV⟩,⟨jV,jV,jV,jV⟩,jV,jV,jV,jV⟩
def Ww(X:j8)(n:Nat):Ib (lc X n) [0,0,1,1,1,1,1,1,1,0,0,1,1,1,1,1] 4 5=true/\Ib (lc X n) [0,0,1,1,1,1,1,1,1,0,0,1,1,1,1,1] 4 6=true/\Ib (lc X n) [0,0,1,1,1,1,1,1,1,1,1,0,0,1,1,1,1,1] 4 5=true/\Ib (lc X n) [0,0,1,1,1,1,1,1,1,1,1,0,0,1,1,1,1,1] 4 6=true/\Ib (lc X n) [0,1,0,1,1,1,1,1,0,0,1,1,1,1,1] 4 5=true/\Ib (lc X n) [0,1,0,1,1,1,1,1,0,0,1,1,1,1,1] 4 6=true/\Oi (lc X n) [0,0,1,1,1,1,1,1,1,0,0,1,1,1,1,1] 4=false/\Oi (lc X n) [0,0,1,1,1,1,1,1,1,0,0,1,1,1,1,1] 5=true/\Oi (lc X n) [0,0,1,1,1,1,1,1,1,1,1,0,0,1,1,1,1,1] 4=false/\Oi (lc X n) [0,0,1,1,1,1,1,1,1,1,1,0,0,1,1,1,1,1] 5=true/\Oi (lc X n) [0,1] 7=true/\Oi (lc X n) [0,1,0,1,1,1,1,1,0,0,1,1,1,1,1] 4=false/\Oi (lc X n) [0,1,0,1,1,1,1,1,0,0,1,1,1,1,1] 5=true:=⟨jV,jV,jV,jV,jV,jV,jV,jV,jV,jV,jV,jV,jV⟩
attribute [go_sem] Wu Wv Ww
def vE(X:j8)(n:Nat):SX (lc X n) (lS 0 kP) jW 80 kM:=yD
end Go.Abs
end
