/- A part of the proof: what the functions compute. -/
import Derived.Test.YtdkeelhebopgkaaGreatDoorDataA
import Derived.Test.YtdkeelhebopgkaaGreatDoorWalkA
import Derived.Test.YtdkeelhebopgkaaGreatDoorExtA
set_option linter.all false
open Go.Proofs.Tryz renaming prog → fA
open Nat renaming reduceLeDiff → fB,reduceEqDiff → fD,reduceAdd → fG,reduceSub → fH,reduceBEq → fI,reduceMul → fJ,reduceLT → fL
open Int renaming reduceToNat → fE,reduceBEq → fK,reduceLE → fM,reduceLT → fN,reduceEq → fO
open Option renaming getD_some → fF
open Go.Abs.AV renaming any → qA
noncomputable section
open Go.Proofs.Tryz
namespace Go.Abs
variable {m:Nat}
variable (n:Nat)
open Go.Proofs
attribute [go_sem] f199 f220 f223 f42 f45 f185 f155 f154 f72 f57 f19 f44 f123 f122 f88 f114 f149 f60 f119 f141 f179 f138 f35 f47 f281 f177 f288 f69 f118 f242 f21 f30 f71 f274 f219 f12 f33 f273 f268 f197
set_option maxRecDepth 100000
set_option maxHeartbeats 4000000
@[go_sem]def nU:=(kP (lF Syntax.ky) (kP (lO .i64) kr))
@[go_sem]def vD(F:Int->(List Syntax)->Int->Int->Tb->Tb->T9->Option Th):=tB true [.arg 0 [],.obj 0 0 [],.obj 1 0 [],.obj 1 1 [],.obj 1 2 []] jV (lm 0 (kP (lO .i64) kr)) jV nU jV (kP (M4 202 TT) kr) (fun(b:T7)(a:(Int×Unit))=>F a.1 b.1.1 b.1.2.1 b.2.1.1 b.2.2.1 b.2.2.2.1 b.2.2.2.2.1)
@[go_sem]def qa:=(lm 0 (kP (lF jH.ky) (kP (lO .i64) (kP (al8 Syntax.row) (kP (lO .i64) kr)))))
@[go_sem]def Ax(F:jH->Int->(List Syntax)->Int->(List Syntax)->Int->Int->Tb->Tb->T9->Option Tn):=tB true [.arg 0 [],.obj 0 0 [],.obj 1 0 [],.obj 1 1 [],.obj 1 2 []] jV qa jV (kP (lF Syntax.ky) kr) jV (kP (M4 202 TT) kr) (fun(b:T7)(a:TS)=>F a.1 a.2.1 a.2.2.1 a.2.2.2.1 b.1.1 b.1.2.1 b.2.1.1 b.2.2.1 b.2.2.2.1 b.2.2.2.2.1)
structure j6 where
 lZ:Int->(List Syntax)->Int->Int->Tb->Tb->T9->Option Th
 ld:Int->(List Syntax)->Int->Int->Tb->Tb->T9->Option Th
 mP:jH->Int->(List Syntax)->Int->(List Syntax)->Int->Int->Tb->Tb->T9->Option Tn
open Go.Proofs
@[go_sem]def E9:wX:=⟨[],[],(zK::zK::zA::zA::zK::zA::zK::zK::me (me (me (l7 (zA::zA::zA::[]))))),[oC [zK,zT (l5 Syntax.row),zK],oC [zK,zK,zK,zK],oM (lF jH.ky),oM (lF jH.ky),oK,oK,oT Syntax.ky],none,none⟩
@[reducible] def Gg(X:j6)(n:Nat):kD Th:=ol fA f199 n (pd fA [.cell 4 29,.tmp 5] [] [0,1,2,3,4] 5 jV nU) (cl:=nk [(221,xN (sM n)),(222,rI (lF jH.ky) (lO .i64) (lO .i64) (D1 n))]) (sx:=qk [([0,1,1],E9)]) (nB:=pe [] [0,1,2,3,4] 5 jV (kP (M4 202 TT) kr)) (cp:=wP [(220,vD X.ld),(223,Ax X.mP)]) (wL:=lV [220,223])
@[go_sem]abbrev Fa(v0:Int)(v1:Int)(v2:List Syntax)(v3:Int)(v4:Int)(r2:List (Str×jH))(r3:List (Str×jH))(r4:List (Str×Bool))(o6:Syntax):jI:=⟨(.ptr 0 0:: .int .i64 v0::qA::qA:: .ptr 5 0::qA:: .ptr 6 0:: .int .i64 v1::mo (mo (mo (mq (qA::qA::qA::[]))))),[.cells [.ptr 1 0,.lI false 8 (mp Syntax.cells v2),.int .i64 v3],.cells [.map 2,.map 3,.map 4,.int .i64 v4],.map (mp (JR (lF jH.ky)) r2),.map (mp (JR (lF jH.ky)) r3),.map (mp CM r4),.cells [.int .i64 0,.str (sb []),.int .i64 0,.lI true 0 [],.lI true 0 [],.lI true 0 [],.int .i64 0,.int .i64 0],.cells (Syntax.cells o6)],5,[]⟩
abbrev Fb:=Int->Int->(List Syntax)->Int->Int->Tb->Tb->T9->Syntax->Option Th
abbrev OU(X:j6)(n:Nat)(K:List Kt)(Z:Fb):Prop:= ∀v0 v1 v2 v3 v4 r2 r3 r4 o6,run (Gg X n) K (Fa v0 v1 v2 v3 v4 r2 r3 r4 o6)=Z v0 v1 v2 v3 v4 r2 r3 r4 o6
def qc(X:j6)(n:Nat):LB (OU X n) [0,1,1] [.blk 0]:=pu
def nV(X:j6)(n:Nat):Nat->Fb:=w8 ((qc X n).1)
def wT(X:j6){n:Nat}:nV X n (m+1)=(qc X n).1 (nV X n m):=rfl
@[go_sem]def Lg(X:j6)(n:Nat)(m:Nat):=Ij (qc X n) (nV X n) m
def sS(X:j6)(n:Nat):{B:Int->(List Syntax)->Int->Int->Tb->Tb->T9->Option Th // ∀(a0:Int)(o0:(List Syntax))(o1:Int)(o2:Int)(o3:Tb)(o4:Tb)(o5:T9),run (Gg X n) [.at []] (rB (lm 0 (kP (lO .i64) kr)) jV ((o0,o1,()),(o2,()),o3,o4,o5,()) (a0,()) 63)=B a0 o0 o1 o2 o3 o4 o5}:=pu
open Go.Proofs
@[reducible] def k9(X:j6)(n:Nat):kD Th:=ol fA f220 n (pd fA [.cell 4 29,.tmp 5] [] [0,1,2,3,4] 5 jV nU) (cl:=nk [(245,mW (lF jH.ky) my (yT n))]) (nB:=pe [] [0,1,2,3,4] 5 jV (kP (M4 202 TT) kr)) (co:=LO [(223,EY [.arg 0 [],.obj 0 0 [],.obj 1 0 [],.obj 1 1 [],.obj 1 2 []] jV qa jV (kP (lF Syntax.ky) kr) jV (kP (M4 202 TT) kr) (fun(b:T7)(a:TS)=>X.mP a.1 a.2.1 a.2.2.1 a.2.2.2.1 b.1.1 b.1.2.1 b.2.1.1 b.2.2.1 b.2.2.2.1 b.2.2.2.2.1))]) (cp:=wP [(223,Ax X.mP)]) (wL:=lV [223]) (yb:=lV [223]) (yd:=lV [])
def L2(X:j6)(n:Nat):aum (k9 X n) [0,0,1] [0,0,1,1,1,0,0,1,1,1,1,1] [0,1,1] [0,1,1,1,1]:=⟨jE,jE,jE,jE⟩
def L3(X:j6)(n:Nat):Fz (k9 X n) [0,0,1,1,1,0,0,1,1,1,1,1] 1 4 3 4 1 7 3 7/\Oe (k9 X n) [0,0,1,1,1,0,0,1,1,1,1,1] 4 7=true/\Fz (k9 X n) [0,1,1] 3 11 7 11 8 11 9 11/\Oe (k9 X n) [0,1,1] 10 11=true/\Fz (k9 X n) [0,1,1,1,1] 3 14 6 14 8 14 9 14/\Oe (k9 X n) [0,1,1,1,1] 13 14=true:=⟨⟨jE,jE,jE,jE⟩,jE,⟨jE,jE,jE,jE⟩,jE,⟨jE,jE,jE,jE⟩,jE⟩
def L4(X:j6)(n:Nat):GR (k9 X n) [0,0,1,1,1,0,0,1,1,1,1,1] 4 5=false/\GR (k9 X n) [0,0,1,1,1,0,0,1,1,1,1,1] 4 6=false/\GR (k9 X n) [0,0,1,1,1,0,0,1,1,1,1,1] 4 7=true/\GR (k9 X n) [0,0,1,1,1,0,0,1,1,1,1,1] 4 8=true/\MW (k9 X n) [0,0,1,1,1,0,0,1,1,1,1,1] 4=false:=⟨jE,jE,jE,jE,jE⟩
attribute [go_sem] L2 L3 L4
def nv(X:j6)(n:Nat):{B:Int->(List Syntax)->Int->Int->Tb->Tb->T9->Option Th // ∀(a0:Int)(o0:(List Syntax))(o1:Int)(o2:Int)(o3:Tb)(o4:Tb)(o5:T9),run (k9 X n) [.at []] (rB (lm 0 (kP (lO .i64) kr)) jV ((o0,o1,()),(o2,()),o3,o4,o5,()) (a0,()) 83)=B a0 o0 o1 o2 o3 o4 o5}:=pu
open Go.Proofs
def Fc:wX:=⟨[],[],(l7 (zK::l7 (zA::zK::zK::l7 (zA::zA::zK::Bm (l7 (zK::zK::zK::l7 (l7 (zA::zA::zA::[])))))))),[oC [zK,zT (l5 Syntax.row),zK],oC [zK,zK,zK,zK],oM (lF jH.ky),oM (lF jH.ky),oK,oD,oK,oD,oA Syntax.row,oC [zK,zK,zK,zK,zK,zT (l5 Syntax.row),zK,zK]],none,none⟩
def Fe:wX:=⟨[],[],(l7 (zK::l7 (zA::zK::zK::l7 (zA::zA::zK::Bm (l7 (zL Syntax.row::zK::zK::l7 (l7 (zA::zA::zA::[])))))))),[oC [zK,zT (l5 Syntax.row),zK],oC [zK,zK,zK,zK],oM (lF jH.ky),oM (lF jH.ky),oK,oD,oK,oC [zK,zK,zK,zK,zK,zT (l5 Syntax.row),zK,zK]],(some 87),none⟩
def Ff:wX:=⟨[],[],(zK::zA::zK::zK::zK::zA::zK::zA::zA::zA::zK::zK::l7 (l7 (l7 (zT (l5 l6)::zK::zK::Bm (l7 (l7 (zA::zA::[]))))))),[oC [zK,zT (l5 Syntax.row),zK],oC [zK,zK,zK,zK],oM (lF jH.ky),oM (lF jH.ky),oK,oT jH.ky,oK,oD,oA Syntax.row],none,none⟩
def Fg:wX:=⟨[],[],(zK::zA::zK::zL Syntax.row::zK::zA::zK::zA::zA::zA::zK::zK::l7 (l7 (l7 (zT (l5 l6)::zK::zK::Bm (l7 (l7 (zA::zA::[]))))))),[oC [zK,zT (l5 Syntax.row),zK],oC [zK,zK,zK,zK],oM (lF jH.ky),oM (lF jH.ky),oK,oT jH.ky,oK],(some 3),none⟩
@[reducible] def oo(X:j6)(n:Nat):kD Tn:=ol fA f223 n (pd fA [.cell 10 29] [] [0,1,2,3,4] 5 jV (kP (lF Syntax.ky) kr)) (cl:=nk [(221,xN (sM n)),(222,rI (lF jH.ky) (lO .i64) (lO .i64) (D1 n))]) (sx:=qk [([0,1,0,1,1],Fg),([0,1,0,1,1],Ff),([0,1,0,1,1,1,1],Fe),([0,1,0,1,1,1,1],Fc)]) (nB:=pe [] [0,1,2,3,4] 5 jV (kP (M4 202 TT) kr)) (cp:=wP [(199,vD X.lZ)]) (wL:=lV [199]) (yb:=lV []) (yd:=lV [])
def Qx(X:j6)(n:Nat):tw (oo X n) [0,1,1,1,0,0,1,1,0,0,1,0,1,1]=true:=jE
attribute [go_sem] Qx Fc Fe Ff Fg
abbrev zk(v0:Int)(v1:Int)(v2:Int)(v3:Int)(v4:List Syntax)(v5:Int)(v6:Int)(r2:List (Str×jH))(r3:List (Str×jH))(r4:List (Str×Bool))(r8:List Syntax)(v11:Int)(v12:Str)(v13:List Syntax)(v14:Int)(v15:Int)(c8:Nat):jI:=⟨(mq (.int .i64 v0::mq (qA:: .ptr 6 0:: .int .i64 v1::mq (qA::qA:: .ptr 9 0::Bl (mq (.acc 8 c8:: .int .i64 v2:: .int .i64 v3::mq (mq (qA::qA::qA::[])))))))),[.cells [.ptr 1 0,.lI false 8 (mp Syntax.cells v4),.int .i64 v5],.cells [.map 2,.map 3,.map 4,.int .i64 v6],.map (mp (JR (lF jH.ky)) r2),.map (mp (JR (lF jH.ky)) r3),.map (mp CM r4),.dead,.cells [.int .i64 0,.str (sb []),.int .i64 0,.lI true 0 [],.lI true 0 [],.lI true 0 [],.int .i64 0,.int .i64 0],.dead,.acc true 8 (mp Syntax.cells r8),.cells [.int .i64 v11,.str (sb v12),.int .i64 0,.lI true 0 [],.lI true 0 [],.lI false 8 (mp Syntax.cells v13),.int .i64 v14,.int .i64 v15]],5,[]⟩
abbrev uL:=Int->Int->Int->Int->(List Syntax)->Int->Int->Tb->Tb->T9->(List Syntax)->Int->Str->(List Syntax)->Int->Int->Option Tn
abbrev zl(X:j6)(n:Nat)(K:List Kt)(Z:uL):Prop:= ∀v0 v1 v2 v3 v4 v5 v6 r2 r3 r4 r8 v11 v12 v13 v14 v15 c8,c8=r8.length->run (oo X n) K (zk v0 v1 v2 v3 v4 v5 v6 r2 r3 r4 r8 v11 v12 v13 v14 v15 c8)=Z v0 v1 v2 v3 v4 v5 v6 r2 r3 r4 r8 v11 v12 v13 v14 v15
abbrev Fh(v0:Int)(v1:Int)(v2:List Syntax)(v3:Int)(v4:Int)(v5:List Syntax)(v6:Int)(v7:Int)(r2:List (Str×jH))(r3:List (Str×jH))(r4:List (Str×Bool))(v11:Int)(v12:Str)(v13:List Syntax)(v14:Int)(v15:Int):jI:=⟨(mq (.int .i64 v0::mq (qA:: .ptr 6 0:: .int .i64 v1::mq (qA::qA:: .ptr 7 0::Bl (mq (.lI true 8 (mp Syntax.cells v2):: .int .i64 v3:: .int .i64 v4::mq (mq (qA::qA::qA::[])))))))),[.cells [.ptr 1 0,.lI false 8 (mp Syntax.cells v5),.int .i64 v6],.cells [.map 2,.map 3,.map 4,.int .i64 v7],.map (mp (JR (lF jH.ky)) r2),.map (mp (JR (lF jH.ky)) r3),.map (mp CM r4),.dead,.cells [.int .i64 0,.str (sb []),.int .i64 0,.lI true 0 [],.lI true 0 [],.lI true 0 [],.int .i64 0,.int .i64 0],.cells [.int .i64 v11,.str (sb v12),.int .i64 0,.lI true 0 [],.lI true 0 [],.lI false 8 (mp Syntax.cells v13),.int .i64 v14,.int .i64 v15]],5,[]⟩
abbrev Fi:=Int->Int->(List Syntax)->Int->Int->(List Syntax)->Int->Int->Tb->Tb->T9->Int->Str->(List Syntax)->Int->Int->Option Tn
abbrev OV(X:j6)(n:Nat)(K:List Kt)(Z:Fi):Prop:= ∀v0 v1 v2 v3 v4 v5 v6 v7 r2 r3 r4 v11 v12 v13 v14 v15,run (oo X n) K (Fh v0 v1 v2 v3 v4 v5 v6 v7 r2 r3 r4 v11 v12 v13 v14 v15)=Z v0 v1 v2 v3 v4 v5 v6 v7 r2 r3 r4 v11 v12 v13 v14 v15
abbrev zm(v0:Int)(v1:Int)(v2:Int)(v3:List Str)(v4:Int)(v5:Int)(v6:List Syntax)(v7:Int)(v8:Int)(r2:List (Str×jH))(r3:List (Str×jH))(r4:List (Str×Bool))(o5:jH)(r8:List Syntax)(c8:Nat):jI:=⟨(.ptr 0 0::qA:: .int .i64 v0:: .acc 8 c8:: .int .i64 v1::qA:: .ptr 5 0::qA::qA::qA:: .ptr 6 0:: .int .i64 v2::mq (mq (mq (.lI false 1 (mp mA v3):: .int .i64 v4:: .int .i64 v5::Bl (mq (mq (qA::qA::[]))))))),[.cells [.ptr 1 0,.lI false 8 (mp Syntax.cells v6),.int .i64 v7],.cells [.map 2,.map 3,.map 4,.int .i64 v8],.map (mp (JR (lF jH.ky)) r2),.map (mp (JR (lF jH.ky)) r3),.map (mp CM r4),.cells (jH.cells o5),.cells [.int .i64 0,.str (sb []),.int .i64 0,.lI true 0 [],.lI true 0 [],.lI true 0 [],.int .i64 0,.int .i64 0],.dead,.acc true 8 (mp Syntax.cells r8)],5,[]⟩
abbrev uM:=Int->Int->Int->(List Str)->Int->Int->(List Syntax)->Int->Int->Tb->Tb->T9->jH->(List Syntax)->Option Tn
abbrev zn(X:j6)(n:Nat)(K:List Kt)(Z:uM):Prop:= ∀v0 v1 v2 v3 v4 v5 v6 v7 v8 r2 r3 r4 o5 r8 c8,c8=r8.length->run (oo X n) K (zm v0 v1 v2 v3 v4 v5 v6 v7 v8 r2 r3 r4 o5 r8 c8)=Z v0 v1 v2 v3 v4 v5 v6 v7 v8 r2 r3 r4 o5 r8
abbrev Fj(v0:Int)(v1:List Syntax)(v2:Int)(v3:Int)(v4:List Str)(v5:Int)(v6:Int)(v7:List Syntax)(v8:Int)(v9:Int)(r2:List (Str×jH))(r3:List (Str×jH))(r4:List (Str×Bool))(o5:jH):jI:=⟨(.ptr 0 0::qA:: .int .i64 v0:: .lI true 8 (mp Syntax.cells v1):: .int .i64 v2::qA:: .ptr 5 0::qA::qA::qA:: .ptr 6 0:: .int .i64 v3::mq (mq (mq (.lI false 1 (mp mA v4):: .int .i64 v5:: .int .i64 v6::Bl (mq (mq (qA::qA::[]))))))),[.cells [.ptr 1 0,.lI false 8 (mp Syntax.cells v7),.int .i64 v8],.cells [.map 2,.map 3,.map 4,.int .i64 v9],.map (mp (JR (lF jH.ky)) r2),.map (mp (JR (lF jH.ky)) r3),.map (mp CM r4),.cells (jH.cells o5),.cells [.int .i64 0,.str (sb []),.int .i64 0,.lI true 0 [],.lI true 0 [],.lI true 0 [],.int .i64 0,.int .i64 0]],5,[]⟩
abbrev uN:=Int->(List Syntax)->Int->Int->(List Str)->Int->Int->(List Syntax)->Int->Int->Tb->Tb->T9->jH->Option Tn
abbrev uO(X:j6)(n:Nat)(K:List Kt)(Z:uN):Prop:= ∀v0 v1 v2 v3 v4 v5 v6 v7 v8 v9 r2 r3 r4 o5,run (oo X n) K (Fj v0 v1 v2 v3 v4 v5 v6 v7 v8 v9 r2 r3 r4 o5)=Z v0 v1 v2 v3 v4 v5 v6 v7 v8 v9 r2 r3 r4 o5
attribute [go_sem] zk Fh zm Fj
def rQ(X:j6)(n:Nat):{B:uL->uL // ∀m X0,zl X n (.lq m [0,1,0,1,1,1,1]::[.blk 2,.cut [1,1,1,1,1],.at [1,1,1,1,1]]) X0-> ∀(v0:Int)(v1:Int)(v2:Int)(v3:Int)(v4:List Syntax)(v5:Int)(v6:Int)(r2:List (Str×jH))(r3:List (Str×jH))(r4:List (Str×Bool))(r8:List Syntax)(v11:Int)(v12:Str)(v13:List Syntax)(v14:Int)(v15:Int),run (oo X n) (.at [0,0,1,0,1,1,1,1]:: .lp m [0,1,0,1,1,1,1]::[.blk 2,.cut [1,1,1,1,1],.at [1,1,1,1,1]]) (zk v0 v1 v2 v3 v4 v5 v6 r2 r3 r4 r8 v11 v12 v13 v14 v15 (r8.length))=B X0 v0 v1 v2 v3 v4 v5 v6 r2 r3 r4 r8 v11 v12 v13 v14 v15}:=pu
def rR(X:j6)(n:Nat):Nat->uL:=w8 ((rQ X n).1)
def Dh(X:j6){n:Nat}:rR X n (m+1)=(rQ X n).1 (rR X n m):=rfl
@[go_sem]def Lh(X:j6)(n:Nat)(m:Nat):zl X n (.lq m [0,1,0,1,1,1,1]::[.blk 2,.cut [1,1,1,1,1],.at [1,1,1,1,1]]) (rR X n m):=
 sE (G:=fun m Z=>zl X n (.lq m [0,1,0,1,1,1,1]::[.blk 2,.cut [1,1,1,1,1],.at [1,1,1,1,1]]) Z) (fun _ _ _ _ _ _ _ _ _ _ _ _ _ _ _ _ _ _=>lw) (fun m _ ih=>by
  intro v0 v1 v2 v3 v4 v5 v6 r2 r3 r4 r8 v11 v12 v13 v14 v15 c8 ec8;subst ec8;rw[lz];exact(rQ X n).2 _ _ ih v0 v1 v2 v3 v4 v5 v6 r2 r3 r4 r8 v11 v12 v13 v14 v15) m
def rS(X:j6)(n:Nat):LB (OV X n) [0,1,0,1,1,1,1] [.blk 2,.cut [1,1,1,1,1],.at [1,1,1,1,1]]:=pu
def rT(X:j6)(n:Nat):Nat->Fi:=w8 ((rS X n).1)
def Di(X:j6){n:Nat}:rT X n (m+1)=(rS X n).1 (rT X n m):=rfl
@[go_sem]def Li(X:j6)(n:Nat)(m:Nat):=Ij (rS X n) (rT X n) m
def nW(X:j6)(n:Nat):{B:uM->uM // ∀m X0,zn X n (.lq m [0,1,0,1,1]::[.blk 0,.cut [1,1,1],.at [1,1,1]]) X0-> ∀(v0:Int)(v1:Int)(v2:Int)(v3:List Str)(v4:Int)(v5:Int)(v6:List Syntax)(v7:Int)(v8:Int)(r2:List (Str×jH))(r3:List (Str×jH))(r4:List (Str×Bool))(o5:jH)(r8:List Syntax),run (oo X n) (.at [0,0,1,0,1,1]:: .lp m [0,1,0,1,1]::[.blk 0,.cut [1,1,1],.at [1,1,1]]) (zm v0 v1 v2 v3 v4 v5 v6 v7 v8 r2 r3 r4 o5 r8 (r8.length))=B X0 v0 v1 v2 v3 v4 v5 v6 v7 v8 r2 r3 r4 o5 r8}:=pu
def uP(X:j6)(n:Nat):Nat->uM:=w8 ((nW X n).1)
def qJ(X:j6){n:Nat}:uP X n (m+1)=(nW X n).1 (uP X n m):=rfl
@[go_sem]def Lj(X:j6)(n:Nat)(m:Nat):zn X n (.lq m [0,1,0,1,1]::[.blk 0,.cut [1,1,1],.at [1,1,1]]) (uP X n m):=
 sE (G:=fun m Z=>zn X n (.lq m [0,1,0,1,1]::[.blk 0,.cut [1,1,1],.at [1,1,1]]) Z) (fun _ _ _ _ _ _ _ _ _ _ _ _ _ _ _ _=>lw) (fun m _ ih=>by
  intro v0 v1 v2 v3 v4 v5 v6 v7 v8 r2 r3 r4 o5 r8 c8 ec8;subst ec8;rw[lz];exact(nW X n).2 _ _ ih v0 v1 v2 v3 v4 v5 v6 v7 v8 r2 r3 r4 o5 r8) m
def nX(X:j6)(n:Nat):{B:Nat->uN->uN // ∀m X0,uO X n (.lq m [0,1,0,1,1]::[.blk 0,.cut [1,1,1],.at [1,1,1]]) X0->uO X n (.at [0,0,1,0,1,1]:: .lp m [0,1,0,1,1]::[.blk 0,.cut [1,1,1],.at [1,1,1]]) (B m X0)}:=pu
def rU(X:j6)(n:Nat):Nat->uN:=lpM fun m=>(nX X n).1 m
def qK(X:j6){n:Nat}:rU X n (m+1)=(nX X n).1 m (rU X n m):=rfl
@[go_sem]def Ll(X:j6)(n:Nat)(m:Nat):uO X n (.lq m [0,1,0,1,1]::[.blk 0,.cut [1,1,1],.at [1,1,1]]) (rU X n m):=
 ard (G:=fun m Z=>uO X n (.lq m [0,1,0,1,1]::[.blk 0,.cut [1,1,1],.at [1,1,1]]) Z) (fun _ _ _ _ _ _ _ _ _ _ _ _ _ _=>lw) (fun m _ ih v0 v1 v2 v3 v4 v5 v6 v7 v8 v9 r2 r3 r4 o5=>lz.trans ((nX X n).2 _ _ ih v0 v1 v2 v3 v4 v5 v6 v7 v8 v9 r2 r3 r4 o5)) m
def vE(X:j6)(n:Nat):{B:jH->Int->(List Syntax)->Int->(List Syntax)->Int->Int->Tb->Tb->T9->Option Tn // ∀(a0:jH)(a1:Int)(a2:(List Syntax))(a3:Int)(o0:(List Syntax))(o1:Int)(o2:Int)(o3:Tb)(o4:Tb)(o5:T9),run (oo X n) [.at []] (rB qa jV ((o0,o1,()),(o2,()),o3,o4,o5,()) (a0,a1,a2,a3,()) 101)=B a0 a1 a2 a3 o0 o1 o2 o3 o4 o5}:=pu
open Go.Proofs
def j7:Nat->j6
 |0=>⟨Fu.z,Fu.z,Fu.z⟩
 |n+1=>⟨(sS (j7 n) n).1,(nv (j7 n) n).1,(vE (j7 n) n).1⟩
def lZ:Int->(List Syntax)->Int->Int->Tb->Tb->T9->Option Th:=(j7 n).lZ
def Gh{n:Nat}:lZ (n+1)=(sS (j7 n) n).1:=rfl
def ld:Int->(List Syntax)->Int->Int->Tb->Tb->T9->Option Th:=(j7 n).ld
def qL{n:Nat}:ld (n+1)=(nv (j7 n) n).1:=rfl
def mP:jH->Int->(List Syntax)->Int->(List Syntax)->Int->Int->Tb->Tb->T9->Option Tn:=(j7 n).mP
def Qy{n:Nat}:mP (n+1)=(vE (j7 n) n).1:=rfl
def kv{n:Nat}:(j7 n).lZ=lZ n/\(j7 n).ld=ld n/\(j7 n).mP=mP n:=⟨rfl,rfl,rfl⟩
def ud: ∀n:Nat,(∀(a0:Int)(o0:(List Syntax))(o1:Int)(o2:Int)(o3:Tb)(o4:Tb)(o5:T9)(r:Th),(j7 n).lZ a0 o0 o1 o2 o3 o4 o5=some r->SP fA 199 (lm 0 (kP (lO .i64) kr)) jV ((o0,o1,()),(o2,()),o3,o4,o5,()) (a0,()) true jV nU jV (kP (M4 202 TT) kr) r)/\(∀(a0:Int)(o0:(List Syntax))(o1:Int)(o2:Int)(o3:Tb)(o4:Tb)(o5:T9)(r:Th),(j7 n).ld a0 o0 o1 o2 o3 o4 o5=some r->SP fA 220 (lm 0 (kP (lO .i64) kr)) jV ((o0,o1,()),(o2,()),o3,o4,o5,()) (a0,()) true jV nU jV (kP (M4 202 TT) kr) r)/\(∀(a0:jH)(a1:Int)(a2:(List Syntax))(a3:Int)(o0:(List Syntax))(o1:Int)(o2:Int)(o3:Tb)(o4:Tb)(o5:T9)(r:Tn),(j7 n).mP a0 a1 a2 a3 o0 o1 o2 o3 o4 o5=some r->SP fA 223 qa jV ((o0,o1,()),(o2,()),o3,o4,o5,()) (a0,a1,a2,a3,()) true jV (kP (lF Syntax.ky) kr) jV (kP (M4 202 TT) kr) r)
 |0=>⟨fun _ _ _ _ _ _ _ _ h=>(by cases h),fun _ _ _ _ _ _ _ _ h=>(by cases h),fun _ _ _ _ _ _ _ _ _ _ _ h=>(by cases h)⟩
 |n+1=>by
  obtain⟨OW,Lm,zr⟩:=ud n
  exact⟨fun a0 o0 o1 o2 o3 o4 o5 r h=>P2 (((sS (j7 n) n).2 a0 o0 o1 o2 o3 o4 o5).trans h) (gd (jL (BE (C8 n)) (jL (nA (c2 OJ n)) jQ)) jR (p:=(jX (kw (fun b a r h=>(Lm) a.1 b.1.1 b.1.2.1 b.2.1.1 b.2.2.1 b.2.2.2.1 b.2.2.2.2.1 r h)) (jX (kw (fun b a r h=>(zr) a.1 a.2.1 a.2.2.1 a.2.2.2.1 b.1.1 b.1.2.1 b.2.1.1 b.2.2.1 b.2.2.2.1 b.2.2.2.2.1 r h)) kR)))) func199 ntmps199 results199,
   fun a0 o0 o1 o2 o3 o4 o5 r h=>P2 (((nv (j7 n) n).2 a0 o0 o1 o2 o3 o4 o5).trans h) (gd (jL (lg (c1 F2 n)) jQ) jR (p:=(jX (kw (fun b a r h=>(zr) a.1 a.2.1 a.2.2.1 a.2.2.2.1 b.1.1 b.1.2.1 b.2.1.1 b.2.2.1 b.2.2.2.1 b.2.2.2.2.1 r h)) kR)) (c:=(mi (we (fun b a r h=>(zr) a.1 a.2.1 a.2.2.1 a.2.2.2.1 b.1.1 b.1.2.1 b.2.1.1 b.2.2.1 b.2.2.2.1 b.2.2.2.2.1 r h)) rJ))) func220 ntmps220 results220,
   fun a0 a1 a2 a3 o0 o1 o2 o3 o4 o5 r h=>P2 (((vE (j7 n) n).2 a0 a1 a2 a3 o0 o1 o2 o3 o4 o5).trans h) (gd (jL (BE (C8 n)) (jL (nA (c2 OJ n)) jQ)) jR (p:=(jX (kw (fun b a r h=>(OW) a.1 b.1.1 b.1.2.1 b.2.1.1 b.2.2.1 b.2.2.2.1 b.2.2.2.2.1 r h)) kR))) func223 ntmps223 results223⟩
def OX: ∀(a0:Int)(o0:(List Syntax))(o1:Int)(o2:Int)(o3:Tb)(o4:Tb)(o5:T9)(r:Th),lZ n a0 o0 o1 o2 o3 o4 o5=some r->SP fA 199 (lm 0 (kP (lO .i64) kr)) jV ((o0,o1,()),(o2,()),o3,o4,o5,()) (a0,()) true jV nU jV (kP (M4 202 TT) kr) r:=(ud n).1
def adi: ∀(a0:Int)(o0:(List Syntax))(o1:Int)(o2:Int)(o3:Tb)(o4:Tb)(o5:T9)(r:Th),ld n a0 o0 o1 o2 o3 o4 o5=some r->SP fA 220 (lm 0 (kP (lO .i64) kr)) jV ((o0,o1,()),(o2,()),o3,o4,o5,()) (a0,()) true jV nU jV (kP (M4 202 TT) kr) r:=(ud n).2.1
def afw: ∀(a0:jH)(a1:Int)(a2:(List Syntax))(a3:Int)(o0:(List Syntax))(o1:Int)(o2:Int)(o3:Tb)(o4:Tb)(o5:T9)(r:Tn),mP n a0 a1 a2 a3 o0 o1 o2 o3 o4 o5=some r->SP fA 223 qa jV ((o0,o1,()),(o2,()),o3,o4,o5,()) (a0,a1,a2,a3,()) true jV (kP (lF Syntax.ky) kr) jV (kP (M4 202 TT) kr) r:=(ud n).2.2
open Go.Proofs
@[go_sem]def so:wX:=⟨[],[],(zA::zT (l5 jM.row)::zT (tyF 43)::l7 (l7 (l7 (zT (l5 jM.row)::zK::zK::l7 (l7 (l7 (zA::zA::[]))))))),[],none,none⟩
@[reducible] def sU:kD Bool:=ol fA f42 n (nE fA [.tmp 6] my) (cl:=nk [(43,rI (lF jM.ky) (lF jM.ky) my (Mx n))]) (sx:=qk [([0,1,0,1,1],so)])
@[go_sem]abbrev sr(v0:List jM)(v1:List jM)(v2:Int)(v3:Int):jI:=⟨(qA:: .lI false 2 (mp jM.cells v0):: .func (.func 43) [] []::mq (mq (mq (.lI false 2 (mp jM.cells v1):: .int .i64 v2:: .int .i64 v3::mq (mq (mq (qA::qA::[]))))))),[],0,[]⟩
abbrev su:=Ti->Ti->Int->Int->Option Bool
abbrev zP(K:List Kt)(Z:su):Prop:= ∀v0 v1 v2 v3,run (sU n) K (sr v0 v1 v2 v3)=Z v0 v1 v2 v3
def l8:LB (zP n) [0,1,0,1,1] [.blk 0,.cut [1,1,1],.at [1,1,1]]:=mB
def l9:Nat->su:=w8 ((l8 n).1)
def rD{n:Nat}:l9 n (m+1)=(l8 n).1 (l9 n m):=rfl
@[go_sem]def xV(m:Nat):=Ij (l8 n) (l9 n) m
def pH:{B:Ti->Ti->Unit->Option Bool // ∀(a0:Ti)(a1:Ti)(a2:Unit),run (sU n) [.at []] (xI [(l5 jM.row).enc a0,(l5 jM.row).enc a1,(tyF 43).enc a2] 32)=B a0 a1 a2}:=mB
def nS:=fu fun n=>(pH n).1
def zQ:zO fA 42 (kP (l5 jM.row) (kP (l5 jM.row) (kP (tyF 43) kr))) my (fun n a=>nS n a.1 a.2.1 a.2.2.1):=fC fun n a r h nb=>AQ (((pH n).2 _ _ _).trans h) (gd (jL (nA (c2 adh n)) jQ) jR) func42 nb ntmps42 results42
open Go.Proofs
@[go_sem]def Rw:wX:=⟨[],[],(zK::zA::zA::zA::zT (l5 l6)::zK::Bm (zA::zA::zA::[])),[],none,none⟩
@[go_sem]def Rx:wX:=⟨[],[],(zK::zA::zA::zK::Bm (l7 (zA::[]))),[],none,none⟩
@[reducible] def Ln:kD Bool:=ol fA f45 n (nE fA [.tmp 2] my) (cl:=nk [(49,mW lP my (DR n)),(84,mW (lO .u8) my (ub n)),(85,rI lP (lO .i64) (lO .i64) (AZ n)),(86,mW (lO .u8) my (P3 n)),(87,Ym (al8 l6) (IO n))]) (sx:=qk [([0,1,0,1,1,1,1,1],Rw),([0,1,0,1,1,1],Rx)])
@[go_sem]abbrev Ry(v0:Str)(v1:List Str)(v2:Int):jI:=⟨(.str (sb v0)::qA::qA::qA:: .lI false 1 (mp mA v1):: .int .i64 v2::Bl (qA::qA::qA::[])),[],0,[]⟩
abbrev abv(K:List Kt)(Z:CR):Prop:= ∀v0 v1 v2,run (Ln n) K (Ry v0 v1 v2)=Z v0 v1 v2
@[go_sem]abbrev Rz(v0:Str)(v1:Int):jI:=⟨(.str (sb v0)::qA::qA:: .int .i64 v1::Bl (mq (qA::[]))),[],0,[]⟩
abbrev RA:=Str->Int->Option Bool
abbrev abw(K:List Kt)(Z:RA):Prop:= ∀v0 v1,run (Ln n) K (Rz v0 v1)=Z v0 v1
def A2:LB (abv n) [0,1,0,1,1,1,1,1] [.blk 2,.cut [1,1,1,1,1,1],.at [1,1,1,1,1,1]]:=mB
def wY:Nat->CR:=w8 ((A2 n).1)
def MC{n:Nat}:wY n (m+1)=(A2 n).1 (wY n m):=rfl
@[go_sem]def XD(m:Nat):=Ij (A2 n) (wY n) m
def A3:LB (abw n) [0,1,0,1,1,1] [.blk 0,.cut [1,1,1,1],.at [1,1,1,1]]:=mB
def A4:Nat->RA:=w8 ((A3 n).1)
def MD{n:Nat}:A4 n (m+1)=(A3 n).1 (A4 n m):=rfl
@[go_sem]def XE(m:Nat):=Ij (A3 n) (A4 n) m
def Lo:{B:Str->Option Bool // ∀(a0:Str),run (Ln n) [.at []] (xI [lP.enc a0] 73)=B a0}:=mB
def Gi:=fu fun n=>(Lo n).1
def RB:zO fA 45 (kP lP kr) my (fun n a=>Gi n a.1):=fC fun n a r h nb=>AQ (((Lo n).2 _).trans h) (gd (jL (lg (c1 Oo n)) (jL (lg (c1 Es n)) (jL (nA (c2 La n)) (jL (lg (c1 aej n)) (jL (Mk (c0 TY n)) jQ))))) jR) func45 nb ntmps45 results45
@[reducible] def abx:kD Bool:=ol fA f185 n (nE fA [.tmp 2] my) (cl:=nk [(148,HR (Cg n))])
def JJ:{B:Str->Option Bool // ∀(a0:Str),run (abx n) [.at []] (xI [lP.enc a0] 6)=B a0}:=mB
def Io:=fu fun n=>(JJ n).1
def aaa:zO fA 185 (kP lP kr) my (fun n a=>Io n a.1):=fC fun n a r h nb=>AQ (((JJ n).2 _).trans h) (gd (jL (BE (MA n)) jQ) jR) func185 nb ntmps185 results185
@[go_sem]def G5:wX:=⟨[],[],(zK::me (me (me (l7 (zA::zA::[]))))),[oC [zK,zK,zK,zK,zK],oK,oK,oK],none,none⟩
@[go_sem]def Jc(F:Str->Int->T9->T9->T9->Option (Tw×Unit)):=Yr [.arg 0 [],.obj 0 2 [],.obj 0 3 [],.obj 0 4 []] ku (lm 0 kr) ku kr (fun(b:Tw)(a:Unit)=>F b.1.1 b.1.2.1 b.2.1 b.2.2.1 b.2.2.2.1)
@[reducible] def Cj:kD (Tw×Unit):=ol fA f155 n (Ds fA [] [] [0,1,2,3] 4 ku kr) (cl:=nk [(93,rI lP lP my (BJ n)),(188,rI lP (lO .i32) my (um n)),(189,rI lP lP (Yk lP lP my) (strings_Cut n))]) (sx:=qk [([0],G5)]) (yb:=lV []) (yd:=lV [])
@[go_sem]def Uy:aml (Cj n) [0,0,0,0] [0,0,1,0,0]:=⟨jE,jE⟩
@[go_sem]abbrev G6(v0:Str)(v1:Int)(r1:List (Str×Bool))(r2:List (Str×Bool))(r3:List (Str×Bool)):jI:=⟨(.ptr 0 0::mo (mo (mo (mq (qA::qA::[]))))),[.cells [.str (sb v0),.int .i64 v1,.map 1,.map 2,.map 3],.map (mp CM r1),.map (mp CM r2),.map (mp CM r3)],4,[]⟩
abbrev G7:=Str->Int->T9->T9->T9->Option (Tw×Unit)
abbrev R7(K:List Kt)(Z:G7):Prop:= ∀v0 v1 r1 r2 r3,run (Cj n) K (G6 v0 v1 r1 r2 r3)=Z v0 v1 r1 r2 r3
def wD:LB (R7 n) [0] [.blk 0]:=mB
def wE:Nat->G7:=w8 ((wD n).1)
def OY{n:Nat}:wE n (m+1)=(wD n).1 (wE n m):=rfl
@[go_sem]def ND(m:Nat):=Ij (wD n) (wE n) m
def Ck:{B:Str->Int->T9->T9->T9->Option (Tw×Unit) // ∀(o0:Str)(o1:Int)(o2:T9)(o3:T9)(o4:T9),run (Cj n) [.at []] (rB (lm 0 kr) ku ((o0,o1,()),o2,o3,o4,()) () 55)=B o0 o1 o2 o3 o4}:=mB
def tT:=fu fun n=>(Ck n).1
def R8:OKX fA 155 (lm 0 kr) ku ku kr (fun n b a=>tT n b.1.1 b.1.2.1 b.2.1 b.2.2.1 b.2.2.2.1):=fX fun n b a r h=>okG (((Ck n).2 b.1.1 b.1.2.1 b.2.1 b.2.2.1 b.2.2.2.1).trans h) (gd (jL (nA (c2 Uq n)) (jL (nA (c2 OQ n)) (jL (nA (ac5 n)) jQ))) jR) func155 ntmps155 results155
@[reducible] def Gj:kD Tg:=ol fA f154 n (Ds fA [.tmp 2,.tmp 3,.tmp 4] [] [0,1,2,3] 4 ku mC) (cd:=KO [(187,pU (agw (rI lP lP (lO .i64) (uG n)) (rI lP lP (lO .i64) (strings_IndexAny n))))]) (yb:=lV []) (yd:=lV [])
@[go_sem]def Qz:aum (Gj n) [0,0,1,0,1,1] [0,0,1,1] [0,1] [0,1,1,1]:=⟨jE,jE,jE,jE⟩
def Ay:{B:Str->Int->T9->T9->T9->Option Tg // ∀(o0:Str)(o1:Int)(o2:T9)(o3:T9)(o4:T9),run (Gj n) [.at []] (rB (lm 0 kr) ku ((o0,o1,()),o2,o3,o4,()) () 45)=B o0 o1 o2 o3 o4}:=mB
def xl:=fu fun n=>(Ay n).1
def OZ:OKX fA 154 (lm 0 kr) ku ku mC (fun n b a=>xl n b.1.1 b.1.2.1 b.2.1 b.2.2.1 b.2.2.2.1):=fX fun n b a r h=>okG (((Ay n).2 b.1.1 b.1.2.1 b.2.1 b.2.2.1 b.2.2.2.1).trans h) (gd jQ (nP (al7 (ui (TW n)) (ui (Wj n))) jR)) func154 ntmps154 results154
@[reducible] def Uz:kD Ts:=ol fA f72 n (pd fA [] [] [0] 1 jF kr) (nB:=pe [] [0] 1 jF jN) (cp:=wP [(103,kS (lK n))]) (wL:=lV [103])
def xm:{B:Int->jG->Option Ts // ∀(a0:Int)(o0:jG),run (Uz n) [.at []] (rB (lm 0 (kP (lO .i64) kr)) jF ((o0,()),()) (a0,()) 8)=B a0 o0}:=pu
def kO:=fu fun n=>(xm n).1
def lE:OKP fA 72 (lm 0 (kP (lO .i64) kr)) jF true jF kr jF jN (fun n b a=>kO n a.1 b.1.1):=fP fun n b a r h=>P2 (((xm n).2 a.1 b.1.1).trans h) (gd jQ jR (p:=(jX (kw (rP n)) kR))) func72 ntmps72 results72
@[go_sem]def pI(F:Bool->jG->Option Ts):=tB true [.arg 0 []] jF (lm 0 (kP my kr)) jF kr jF jN (fun(b:T6)(a:(Bool×Unit))=>F a.1 b.1.1)
@[reducible] def QA:kD Ts:=ol fA f57 n (pd fA [] [] [0] 1 jF kr) (nB:=pe [] [0] 1 jF jN) (cp:=wP [(103,kS (lK n))]) (wL:=lV [103])
def Az:{B:Bool->jG->Option Ts // ∀(a0:Bool)(o0:jG),run (QA n) [.at []] (rB (lm 0 (kP my kr)) jF ((o0,()),()) (a0,()) 8)=B a0 o0}:=pu
def lA:=fu fun n=>(Az n).1
def nf:OKP fA 57 (lm 0 (kP my kr)) jF true jF kr jF jN (fun n b a=>lA n a.1 b.1.1):=fP fun n b a r h=>P2 (((Az n).2 a.1 b.1.1).trans h) (gd jQ jR (p:=(jX (kw (rP n)) kR))) func57 ntmps57 results57
open Go.Proofs
structure sC where
 pz:Syntax->Syntax->Option Bool
 k7:(List Syntax)->(List Syntax)->Unit->Option Bool
open Go.Proofs
@[reducible] def aeu(X:sC)(n:Nat):kD Bool:=ol fA f19 n (nE fA [.tmp 4] my) (cl:=nk [(41,rI (l5 l6) (l5 l6) my (yt n)),(42,S7 (l5 jM.row) (l5 jM.row) (tyF 43) my (nS n)),(44,S7 (l5 Syntax.row) (l5 Syntax.row) (tyF 19) my X.k7)])
def Ip(X:sC)(n:Nat):{B:Syntax->Syntax->Option Bool // ∀(a0:Syntax)(a1:Syntax),run (aeu X n) [.at []] (xI [(lF Syntax.ky).enc a0,(lF Syntax.ky).enc a1] 45)=B a0 a1}:=mB
open Go.Proofs
@[go_sem]def uo:wX:=⟨[],[],(zA::zT (l5 Syntax.row)::zT (tyF 19)::l7 (l7 (l7 (zT (l5 Syntax.row)::zK::zK::l7 (l7 (l7 (zA::zA::[]))))))),[],none,none⟩
@[reducible] def uQ(X:sC)(n:Nat):kD Bool:=ol fA f44 n (nE fA [.tmp 6] my) (cl:=nk [(19,rI (lF Syntax.ky) (lF Syntax.ky) my X.pz)]) (sx:=qk [([0,1,0,1,1],uo)])
@[go_sem]abbrev uq(v0:List Syntax)(v1:List Syntax)(v2:Int)(v3:Int):jI:=⟨(qA:: .lI false 8 (mp Syntax.cells v0):: .func (.func 19) [] []::mq (mq (mq (.lI false 8 (mp Syntax.cells v1):: .int .i64 v2:: .int .i64 v3::mq (mq (mq (qA::qA::[]))))))),[],0,[]⟩
abbrev ur:=(List Syntax)->(List Syntax)->Int->Int->Option Bool
abbrev Cl(X:sC)(n:Nat)(K:List Kt)(Z:ur):Prop:= ∀v0 v1 v2 v3,run (uQ X n) K (uq v0 v1 v2 v3)=Z v0 v1 v2 v3
def mQ(X:sC)(n:Nat):LB (Cl X n) [0,1,0,1,1] [.blk 0,.cut [1,1,1],.at [1,1,1]]:=mB
def mR(X:sC)(n:Nat):Nat->ur:=w8 ((mQ X n).1)
def tD(X:sC){n:Nat}:mR X n (m+1)=(mQ X n).1 (mR X n m):=rfl
@[go_sem]def A5(X:sC)(n:Nat)(m:Nat):=Ij (mQ X n) (mR X n) m
def oB(X:sC)(n:Nat):{B:(List Syntax)->(List Syntax)->Unit->Option Bool // ∀(a0:(List Syntax))(a1:(List Syntax))(a2:Unit),run (uQ X n) [.at []] (xI [(l5 Syntax.row).enc a0,(l5 Syntax.row).enc a1,(tyF 19).enc a2] 32)=B a0 a1 a2}:=mB
open Go.Proofs
def ot:Nat->sC
 |0=>⟨Fu.z,Fu.z⟩
 |n+1=>⟨(Ip (ot n) n).1,(oB (ot n) n).1⟩
def pz:Syntax->Syntax->Option Bool:=(ot n).pz
def aev{n:Nat}:pz (n+1)=(Ip (ot n) n).1:=rfl
def k7:(List Syntax)->(List Syntax)->Unit->Option Bool:=(ot n).k7
def CZ{n:Nat}:k7 (n+1)=(oB (ot n) n).1:=rfl
def Gk{n:Nat}:(ot n).pz=pz n/\(ot n).k7=k7 n:=⟨rfl,rfl⟩
def JK: ∀n:Nat,(∀(a0:Syntax)(a1:Syntax)(r:Bool),(ot n).pz a0 a1=some r->GP fA 19 [(lF Syntax.ky).enc a0,(lF Syntax.ky).enc a1] (fun v=>v=my.enc r))/\(∀(a0:(List Syntax))(a1:(List Syntax))(a2:Unit)(r:Bool),(ot n).k7 a0 a1 a2=some r->GP fA 44 [(l5 Syntax.row).enc a0,(l5 Syntax.row).enc a1,(tyF 19).enc a2] (fun v=>v=my.enc r))
 |0=>⟨fun _ _ _ h=>(by cases h),fun _ _ _ _ h=>(by cases h)⟩
 |n+1=>by
  obtain⟨adk,Cm⟩:=JK n
  exact⟨fun a0 a1 r h=>AQ (((Ip (ot n) n).2 a0 a1).trans h) (gd (jL (nA (c2 Qd n)) (jL (Vz (c3 zQ n)) (jL (Vz (Cm)) jQ))) jR) func19 ⟨(lF Syntax.ky).nb 0 _,(lF Syntax.ky).nb 0 _,trivial⟩ ntmps19 results19,
   fun a0 a1 a2 r h=>AQ (((oB (ot n) n).2 a0 a1 a2).trans h) (gd (jL (nA (adk)) jQ) jR) func44 ⟨(l5 Syntax.row).nb 0 _,(l5 Syntax.row).nb 0 _,(tyF 19).nb 0 _,trivial⟩ ntmps44 results44⟩
def Lp: ∀(a0:Syntax)(a1:Syntax)(r:Bool),pz n a0 a1=some r->GP fA 19 [(lF Syntax.ky).enc a0,(lF Syntax.ky).enc a1] (fun v=>v=my.enc r):=(JK n).1
def UA: ∀(a0:(List Syntax))(a1:(List Syntax))(a2:Unit)(r:Bool),k7 n a0 a1 a2=some r->GP fA 44 [(l5 Syntax.row).enc a0,(l5 Syntax.row).enc a1,(tyF 19).enc a2] (fun v=>v=my.enc r):=(JK n).2
open Go.Proofs
@[reducible] def Lq:kD Bool:=ol fA f123 n (nE fA [.tmp 2] my) (cl:=nk [(79,rI (yg jG.ky) lP my (lY n)),(159,mW (yg jG.ky) my (rM n))])
def wj:{B:jG->Option Bool // ∀(a0:jG),run (Lq n) [.at []] (xI [(yg jG.ky).enc a0] 9)=B a0}:=mB
def pR:=fu fun n=>(wj n).1
def vF:zO fA 123 (kP (yg jG.ky) kr) my (fun n a=>pR n a.1):=fC fun n a r h nb=>AQ (((wj n).2 _).trans h) (gd (jL (nA (c2 mZ n)) (jL (lg (c1 yX n)) jQ)) jR) func123 nb ntmps123 results123
@[reducible] def Gl:kD (Td×(Bool×Unit)):=ol fA f122 n (agu fA [.tmp 4] (uF (xG jG.ky) tz) (Ml my II) 1) (cl:=nk [(59,yM [0] (uF (xG jG.ky) tz) (MZ 0 Kd) (uF (xG jG.ky) tz) (Ml lP II) (fun(b:Td) a=>(kE n) b.1)),(79,zN (pU (rI (yg jG.ky) lP my (lY n))))])
def AA:{B:jG->Str->Option (Td×(Bool×Unit)) // ∀(a0:jG)(a1:Str),run (Gl n) [.at []] (xI ((MZ 0 (asT lP Kd)).enc (a0,()) (a1,())) 13 ((uF (xG jG.ky) tz).enc (a0,())))=B a0 a1}:=mB
def kZ:=fu fun n=>(AA n).1
def lj: ∀(n:Nat)(a0:jG)(a1:Str)(r:(Td×(Bool×Unit))),kZ n a0 a1=some r->FnG fA 122 ((MZ 0 (asT lP Kd)).enc (a0,()) (a1,())) ((uF (xG jG.ky) tz).enc (a0,())) (fun o H'=>o= .ret (tA ((Ml my II).enc r.1 r.2))/\H'=(uF (xG jG.ky) tz).enc r.1)
 |0,_,_,_,h=>by cases h
 |n+1,a0,a1,r,h=>by
  exact BD (M:=Gl n) ⟨(jL (n7 (fun b a r h=>(kY n) b.1 r h)) (jL (nQ (ui (c2 mZ n))) jQ)),jR,qg _,qy _,uh,uj,vn,u1⟩ func122 rfl rfl (by simp only[go_sem,fG,fH,fB,fD,fI,fJ,fL,fM,fN,fE,fK,fO]) ((uF (xG jG.ky) tz).nb _ _) ntmps122 results122 (fun σ hs=>abU hs) (((AA n).2 a0 a1).trans h)
@[go_sem]def WT:wX:=⟨[],[],(zK::zK::me (l7 (l7 (l7 (zA::[]))))),[],none,none⟩
@[reducible] def YM:kD Int:=ol fA f88 n (nE fA [.tmp 4] (lO .i64)) (cl:=nk [(84,mW (lO .u8) my (ub n)),(85,rI lP (lO .i64) (lO .i64) (AZ n))]) (sx:=qk [([0,0,1,1],WT)])
@[go_sem]abbrev WU(v0:Str)(v1:Int):jI:=⟨(.str (sb v0):: .int .i64 v1::mo (mq (mq (mq (qA::[]))))),[],0,[]⟩
abbrev aew(K:List Kt)(Z:q8):Prop:= ∀v0 v1,run (YM n) K (WU v0 v1)=Z v0 v1
def Iq:LB (aew n) [0,0,1,1] [.blk 0,.cut [1,1,1],.at [1,1,1]]:=mB
def Ir:Nat->q8:=w8 ((Iq n).1)
def aby{n:Nat}:Ir n (m+1)=(Iq n).1 (Ir n m):=rfl
@[go_sem]def aab(m:Nat):=Ij (Iq n) (Ir n) m
def QB:{B:Str->Int->Option Int // ∀(a0:Str)(a1:Int),run (YM n) [.at []] (xI [lP.enc a0,(lO .i64).enc a1] 31)=B a0 a1}:=mB
def QD:=fu fun n=>(QB n).1
def aex:zO fA 88 (kP lP (kP (lO .i64) kr)) (lO .i64) (fun n a=>QD n a.1 a.2.1):=fC fun n a r h nb=>AQ (((QB n).2 _ _).trans h) (gd (jL (lg (c1 Es n)) (jL (nA (c2 La n)) jQ)) jR) func88 nb ntmps88 results88
open Go.Proofs
@[go_sem]def UB:wX:=⟨[],[],(zA::zK::zA::zA::zA::zK::Bm (me (me (l7 (zA::zA::zA::[]))))),[oT jH.ky],none,none⟩
@[go_sem]def UC:wX:=⟨[],[],(zA::zK::zA::zK::zK::Bm (me (me (l7 (l7 []))))),[oT jH.ky],none,none⟩
@[reducible] def NE:kD Int:=ol fA f114 n (nE fA [.tmp 2] (lO .i64)) (cl:=nk [(45,mW lP my (Gi n)),(116,mW (lF jH.ky) my (Ag n)),(145,mW (lF jH.ky) my (Mp n)),(146,mW lP my (Qj n))]) (sx:=qk [([0,1,0,1,1,1,1,1],UB),([0,1,0,1,1,1],UC)])
@[go_sem]abbrev UD(v0:Int)(o0:jH):jI:=⟨(qA:: .ptr 0 0::qA::qA::qA:: .int .i64 v0::Bl (mo (mo (mq (qA::qA::qA::[]))))),[.cells (jH.cells o0)],0,[]⟩
abbrev UE:=Int->jH->Option Int
abbrev adl(K:List Kt)(Z:UE):Prop:= ∀v0 o0,run (NE n) K (UD v0 o0)=Z v0 o0
@[go_sem]abbrev UF(v0:Bool)(v1:Int)(o0:jH):jI:=⟨(qA:: .ptr 0 0::qA:: .bool v0:: .int .i64 v1::Bl (mo (mo (mq (mq []))))),[.cells (jH.cells o0)],0,[]⟩
abbrev UG:=Bool->Int->jH->Option Int
abbrev adm(K:List Kt)(Z:UG):Prop:= ∀v0 v1 o0,run (NE n) K (UF v0 v1 o0)=Z v0 v1 o0
def Cn:LB (adl n) [0,1,0,1,1,1,1,1] [.blk 2,.cut [1,1,1,1,1,1],.at [1,1,1,1,1,1]]:=mB
def zt:Nat->UE:=w8 ((Cn n).1)
def O0{n:Nat}:zt n (m+1)=(Cn n).1 (zt n m):=rfl
@[go_sem]def YN(m:Nat):=Ij (Cn n) (zt n) m
def Cp:LB (adm n) [0,1,0,1,1,1] [.blk 0,.cut [1,1,1,1],.at [1,1,1,1]]:=mB
def ut:Nat->UG:=w8 ((Cp n).1)
def O1{n:Nat}:ut n (m+1)=(Cp n).1 (ut n m):=rfl
@[go_sem]def YO(m:Nat):=Ij (Cp n) (ut n) m
def NF:{B:jH->Option Int // ∀(a0:jH),run (NE n) [.at []] (xI [(lF jH.ky).enc a0] 109)=B a0}:=mB
def ME:=fu fun n=>(NF n).1
def adn:zO fA 114 (kP (lF jH.ky) kr) (lO .i64) (fun n a=>ME n a.1):=fC fun n a r h nb=>AQ (((NF n).2 _).trans h) (gd (jL (lg (c1 RB n)) (jL (lg (c1 DS n)) (jL (lg (c1 ac7 n)) (jL (lg (c1 aeq n)) jQ)))) jR) func114 nb ntmps114 results114
def RC:wX:=⟨[],[],(zK::me (me (me (zA::zA::zT (l5 l6)::zK::zK::l7 (l7 (zA::[])))))),[],none,none⟩
def RD:wX:=⟨[],[],(zK::me (l7 (l7 (l7 (zA::zA::zA::zK::zK::me (l7 (l7 (l7 (zA::[]))))))))),[],none,none⟩
def RG:wX:=⟨[],[],(zK::l7 (l7 (l7 (zA::zK::zK::me (me (l7 (l7 (l7 (zA::zA::zA::[]))))))))),[],none,none⟩
@[reducible] def Gm:kD Bool:=ol fA f149 n (nE fA [.tmp 2] my) (cl:=nk [(150,Ym (l5 l6) (IX n)),(156,mW (lO .u8) (lO .i64) (zW n)),(166,rI lP lP my (strings_Contains n)),(184,mW (lO .u8) my (vC n)),(185,mW lP my (Io n))]) (sx:=qk [([0,1,0,1,1,1,1,1],RC),([0,1,0,1,1,1],RD),([0,1,0,0,1,0,1,1],RG)])
attribute [go_sem] RC RD RG
abbrev RH(v0:Str)(v1:List Str)(v2:Int)(v3:Int):jI:=⟨(.str (sb v0)::mo (mo (mo (qA::qA:: .lI false 1 (mp mA v1):: .int .i64 v2:: .int .i64 v3::mq (mq (qA::[])))))),[],0,[]⟩
abbrev RI:=Str->(List Str)->Int->Int->Option Bool
abbrev abz(K:List Kt)(Z:RI):Prop:= ∀v0 v1 v2 v3,run (Gm n) K (RH v0 v1 v2 v3)=Z v0 v1 v2 v3
abbrev RJ(v0:Str)(v1:Int)(v2:Int):jI:=⟨(.str (sb v0)::mo (mq (mq (mq (qA::qA::qA:: .int .i64 v1:: .int .i64 v2::mo (mq (mq (mq (qA::[]))))))))),[],0,[]⟩
abbrev Eu:=Str->Int->Int->Option Bool
abbrev abA(K:List Kt)(Z:Eu):Prop:= ∀v0 v1 v2,run (Gm n) K (RJ v0 v1 v2)=Z v0 v1 v2
abbrev RM(v0:Str)(v1:Int)(v2:Int):jI:=⟨(.str (sb v0)::mq (mq (mq (qA:: .int .i64 v1:: .int .i64 v2::mo (mo (mq (mq (mq (qA::qA::qA::[]))))))))),[],0,[]⟩
abbrev RN:List Kt:=[.blk 0,.cut [1,0,1,0,1,1],.at [1,0,1,0,1,1],.cut [1,1,1],.at [1,1,1]]
abbrev abB(K:List Kt)(Z:Eu):Prop:= ∀v0 v1 v2,run (Gm n) K (RM v0 v1 v2)=Z v0 v1 v2
attribute [go_sem] RH RJ RM RN
def A6:LB (abz n) [0,1,0,1,1,1,1,1] [.blk 4,.cut [1,1,1,1,1,1],.at [1,1,1,1,1,1]]:=mB
def wZ:Nat->RI:=w8 ((A6 n).1)
def MF{n:Nat}:wZ n (m+1)=(A6 n).1 (wZ n m):=rfl
@[go_sem]def XF(m:Nat):=Ij (A6 n) (wZ n) m
def A7:LB (abA n) [0,1,0,1,1,1] [.blk 2,.cut [1,1,1,1],.at [1,1,1,1]]:=mB
def A8:Nat->Eu:=w8 ((A7 n).1)
def MG{n:Nat}:A8 n (m+1)=(A7 n).1 (A8 n m):=rfl
@[go_sem]def XG(m:Nat):=Ij (A7 n) (A8 n) m
def A9:LB (abB n) [0,1,0,0,1,0,1,1] RN:=mB
def Ba:Nat->Eu:=w8 ((A9 n).1)
def MH{n:Nat}:Ba n (m+1)=(A9 n).1 (Ba n m):=rfl
@[go_sem]def XH(m:Nat):=Ij (A9 n) (Ba n) m
def Lr:{B:Str->Option Bool // ∀(a0:Str),run (Gm n) [.at []] (xI [lP.enc a0] 63)=B a0}:=mB
def Gn:=fu fun n=>(Lr n).1
def RO:zO fA 149 (kP lP kr) my (fun n a=>Gn n a.1):=fC fun n a r h nb=>AQ (((Lr n).2 _).trans h) (gd (jL (Mk (c0 Un n)) (jL (lg (c1 B0 n)) (jL (nA (Dt n)) (jL (lg (c1 JD n)) (jL (lg (c1 aaa n)) jQ))))) jR) func149 nb ntmps149 results149
@[go_sem]def mS(F:Str->jG->Option Ts):=tB true [.arg 0 []] jF (lm 0 (kP lP kr)) jF kr jF jN (fun(b:T6)(a:(Str×Unit))=>F a.1 b.1.1)
@[reducible] def UH:kD Ts:=ol fA f60 n (pd fA [] [] [0] 1 jF kr) (cl:=nk [(59,yM [0] (uF (xG jG.ky) tz) (MZ 0 Kd) (uF (xG jG.ky) tz) (Ml lP II) (fun(b:Td) a=>(kE n) b.1)),(74,zN (pU (S7 (yg jG.ky) (lO .i64) lP my (rL n)))),(79,zN (pU (rI (yg jG.ky) lP my (lY n))))]) (nB:=pe [] [0] 1 jF jN) (cp:=wP [(57,pI (lA n))]) (wL:=lV [57])
def Cq:{B:Str->jG->Option Ts // ∀(a0:Str)(o0:jG),run (UH n) [.at []] (rB (lm 0 (kP lP kr)) jF ((o0,()),()) (a0,()) 16)=B a0 o0}:=pu
def lB:=fu fun n=>(Cq n).1
def nh:OKP fA 60 (lm 0 (kP lP kr)) jF true jF kr jF jN (fun n b a=>lB n a.1 b.1.1):=fP fun n b a r h=>P2 (((Cq n).2 a.1 b.1.1).trans h) (gd (jL (n7 (fun b a r h=>(kY n) b.1 r h)) (jL (nQ (Og (c3 ve n))) (jL (nQ (ui (c2 mZ n))) jQ))) jR (p:=(jX (kw (nf n)) kR))) func60 ntmps60 results60
@[go_sem]def mg(F:jG->Option TA):=tB true [.arg 0 []] jF (lm 0 kr) jF (kP lP kr) jF jN (fun(b:T6)(a:Unit)=>F b.1.1)
@[reducible] def NG:kD TA:=ol fA f119 n (pd fA [.tmp 2] [] [0] 1 jF (kP lP kr)) (cl:=nk [(59,yM [0] (uF (xG jG.ky) tz) (MZ 0 Kd) (uF (xG jG.ky) tz) (Ml lP II) (fun(b:Td) a=>(kE n) b.1)),(123,zN (pU (mW (yg jG.ky) my (pR n))))]) (nB:=pe [] [0] 1 jF jN) (cp:=wP [(57,pI (lA n))]) (wL:=lV [57])
def xW:{B:jG->Option TA // ∀(o0:jG),run (NG n) [.at []] (rB (lm 0 kr) jF ((o0,()),()) () 9)=B o0}:=pu
def nF:=fu fun n=>(xW n).1
def qM:OKP fA 119 (lm 0 kr) jF true jF (kP lP kr) jF jN (fun n b a=>nF n b.1.1):=fP fun n b a r h=>P2 (((xW n).2 b.1.1).trans h) (gd (jL (n7 (fun b a r h=>(kY n) b.1 r h)) (jL (nQ (mh (c1 vF n))) jQ)) jR (p:=(jX (kw (nf n)) kR))) func119 ntmps119 results119
@[go_sem]def vG(F:jG->Option TM):=tB true [.arg 0 []] jF (lm 0 kr) jF (kP (lO .i64) kr) jF jN (fun(b:T6)(a:Unit)=>F b.1.1)
@[reducible] def QE:kD TM:=ol fA f141 n (pd fA [.tmp 2] [] [0] 1 jF (kP (lO .i64) kr)) (cl:=nk [(56,zN (pU (mW (yg jG.ky) (lF j8.ky) (k8 n)))),(59,yM [0] (uF (xG jG.ky) tz) (MZ 0 Kd) (uF (xG jG.ky) tz) (Ml lP II) (fun(b:Td) a=>(kE n) b.1)),(181,mW lP (ty2 (lO .i64) ari) (strconv_Atoi n))]) (nB:=pe [] [0] 1 jF jN) (cp:=wP [(57,pI (lA n))]) (wL:=lV [57])
def AB:{B:jG->Option TM // ∀(o0:jG),run (QE n) [.at []] (rB (lm 0 kr) jF ((o0,()),()) () 18)=B o0}:=pu
def pE:=fu fun n=>(AB n).1
def zu:OKP fA 141 (lm 0 kr) jF true jF (kP (lO .i64) kr) jF jN (fun n b a=>pE n b.1.1):=fP fun n b a r h=>P2 (((AB n).2 b.1.1).trans h) (gd (jL (nQ (mh (c1 lc n))) (jL (n7 (fun b a r h=>(kY n) b.1 r h)) (jL (lg (abe n)) jQ))) jR (p:=(jX (kw (nf n)) kR))) func141 ntmps141 results141
@[reducible] def Ls:kD TA:=ol fA f179 n (pd fA [.tmp 2] [] [0] 1 jF (kP lP kr)) (cl:=nk [(59,yM [0] (uF (xG jG.ky) tz) (MZ 0 Kd) (uF (xG jG.ky) tz) (Ml lP II) (fun(b:Td) a=>(kE n) b.1)),(159,zN (pU (mW (yg jG.ky) my (rM n))))]) (nB:=pe [] [0] 1 jF jN) (cp:=wP [(57,pI (lA n))]) (wL:=lV [57])
def wk:{B:jG->Option TA // ∀(o0:jG),run (Ls n) [.at []] (rB (lm 0 kr) jF ((o0,()),()) () 9)=B o0}:=pu
def ou:=fu fun n=>(wk n).1
def BK:OKP fA 179 (lm 0 kr) jF true jF (kP lP kr) jF jN (fun n b a=>ou n b.1.1):=fP fun n b a r h=>P2 (((wk n).2 b.1.1).trans h) (gd (jL (n7 (fun b a r h=>(kY n) b.1 r h)) (jL (nQ (mh (c1 yX n))) jQ)) jR (p:=(jX (kw (nf n)) kR))) func179 ntmps179 results179
open Go.Proofs
@[reducible] def UI:kD TA:=ol fA f138 n (pd fA [.tmp 2] [] [0] 1 jF (kP lP kr)) (cl:=nk [(56,zN (pU (mW (yg jG.ky) (lF j8.ky) (k8 n)))),(59,yM [0] (uF (xG jG.ky) tz) (MZ 0 Kd) (uF (xG jG.ky) tz) (Ml lP II) (fun(b:Td) a=>(kE n) b.1))]) (nB:=pe [] [0] 1 jF jN) (cp:=wP [(57,pI (lA n))]) (wL:=lV [57])
def Cr:{B:jG->Option TA // ∀(o0:jG),run (UI n) [.at []] (rB (lm 0 kr) jF ((o0,()),()) () 11)=B o0}:=pu
def wm:=fu fun n=>(Cr n).1
def G8:OKP fA 138 (lm 0 kr) jF true jF (kP lP kr) jF jN (fun n b a=>wm n b.1.1):=fP fun n b a r h=>P2 (((Cr n).2 b.1.1).trans h) (gd (jL (nQ (mh (c1 lc n))) (jL (n7 (fun b a r h=>(kY n) b.1 r h)) jQ)) jR (p:=(jX (kw (nf n)) kR))) func138 ntmps138 results138
@[go_sem]def Gp(F:jG->Option Ts):=tB true [.arg 0 []] jF (lm 0 kr) jF kr jF jN (fun(b:T6)(a:Unit)=>F b.1.1)
@[reducible] def vH:kD Ts:=ol fA f35 n (pd fA [] [] [0] 1 jF kr) (nB:=pe [] [0] 1 jF jN) (co:=LO [(56,Rk (pU (mW (yg jG.ky) (lF j8.ky) (k8 n)))),(57,EY [.arg 0 []] jF (lm 0 (kP my kr)) jF kr jF jN (fun(b:T6)(a:(Bool×Unit))=>(lA n) a.1 b.1.1))]) (yb:=lV [56,57]) (yd:=lV [])
def QF:tw (vH n) []=true:=jE
def QG:Oe (vH n) [] 6 9=true:=jE
def QH:MW (vH n) [] 9=true:=jE
attribute [go_sem] QF QG QH
def AC:{B:jG->Option Ts // ∀(o0:jG),run (vH n) [.at []] (rB (lm 0 kr) jF ((o0,()),()) () 12)=B o0}:=pu
def uu:=fu fun n=>(AC n).1
def O2:OKP fA 35 (lm 0 kr) jF true jF kr jF jN (fun n b a=>uu n b.1.1):=fP fun n b a r h=>P2 (((AC n).2 b.1.1).trans h) (gd jQ jR (c:=(mi (IL (mh (c1 lc n))) (mi (we (nf n)) rJ)))) func35 ntmps35 results35
@[go_sem]def YP:wX:=⟨[],[],(zK::zK::l7 (zA::zA::zA::zK::zA::zA::zK::Bm (Bm (l7 (zA::zA::[]))))),[],none,none⟩
@[go_sem]def YQ:wX:=⟨[],[],(zK::zK::l7 (l7 (zA::zA::zA::zK::Bm (Bm (l7 (zA::[])))))),[],none,none⟩
@[reducible] def UJ:kD (Int×Int×Int):=ol fA f47 n (nE fA [.tmp 6,.tmp 7,.tmp 8] (Yk (lO .i64) (lO .i64) (lO .i64))) (cl:=nk [(49,mW lP my (DR n)),(84,mW (lO .u8) my (ub n)),(87,Ym (al8 l6) (IO n)),(88,rI lP (lO .i64) (lO .i64) (QD n)),(89,rI (l5 l6) lP my (VG n)),(90,mW (lO .u8) my (IN n)),(91,S7 lP (lO .i64) (l5 l6) (lO .i64) (DY n))]) (sx:=qk [([0,0,1,0,1,1,1,0,0,1,1],YP),([0,0,1,0,1,1,1,1,1,0,0,1,1],YQ)])
abbrev YR(v0:Str)(v1:Int)(v2:Int)(v3:Int):jI:=⟨(.str (sb v0):: .int .i64 v1::mq (qA::qA::qA:: .int .u8 v2::qA::qA:: .int .i64 v3::Bl (Bl (mq (qA::qA::[]))))),[],0,[]⟩
abbrev YS:List Kt:=[.blk 2,.cut [1,1,0,1,1,1,0,0,1,1],.at [1,1,0,1,1,1,0,0,1,1],.blk 0,.cut [1,1,1],.at [1,1,1]]
abbrev YT:=Str->Int->Int->Int->Option (Int×Int×Int)
abbrev agS(K:List Kt)(Z:YT):Prop:= ∀v0 v1 v2 v3,run (UJ n) K (YR v0 v1 v2 v3)=Z v0 v1 v2 v3
abbrev YU(v0:Str)(v1:Int)(v2:Int):jI:=⟨(.str (sb v0):: .int .i64 v1::mq (mq (qA::qA::qA:: .int .i64 v2::Bl (Bl (mq (qA::[])))))),[],0,[]⟩
abbrev YV:List Kt:=[.blk 5,.cut [1,1,0,1,1,1,1,1,0,0,1,1],.at [1,1,0,1,1,1,1,1,0,0,1,1],.blk 0,.cut [1,1,1],.at [1,1,1]]
abbrev YW:=Str->Int->Int->Option (Int×Int×Int)
abbrev agT(K:List Kt)(Z:YW):Prop:= ∀v0 v1 v2,run (UJ n) K (YU v0 v1 v2)=Z v0 v1 v2
attribute [go_sem] YR YS YU YV
def Gq:LB (agS n) [0,0,1,0,1,1,1,0,0,1,1] YS:=mB
def C0:Nat->YT:=w8 ((Gq n).1)
def UK{n:Nat}:C0 n (m+1)=(Gq n).1 (C0 n m):=rfl
@[go_sem]def abC(m:Nat):=Ij (Gq n) (C0 n) m
def Gr:LB (agT n) [0,0,1,0,1,1,1,1,1,0,0,1,1] YV:=mB
def Gs:Nat->YW:=w8 ((Gr n).1)
def UL{n:Nat}:Gs n (m+1)=(Gr n).1 (Gs n m):=rfl
@[go_sem]def abD(m:Nat):=Ij (Gr n) (Gs n) m
def UM:{B:Str->Int->(List Str)->Option (Int×Int×Int) // ∀(a0:Str)(a1:Int)(a2:(List Str)),run (UJ n) [.at []] (xI [lP.enc a0,(lO .i64).enc a1,(l5 l6).enc a2] 147)=B a0 a1 a2}:=mB
def VI:=fu fun n=>(UM n).1
def agU:zO fA 47 (kP lP (kP (lO .i64) (kP (l5 l6) kr))) (Yk (lO .i64) (lO .i64) (lO .i64)) (fun n a=>VI n a.1 a.2.1 a.2.2.1):=fC fun n a r h nb=>AQ (((UM n).2 _ _ _).trans h) (gd (jL (lg (c1 Oo n)) (jL (lg (c1 Es n)) (jL (Mk (c0 TY n)) (jL (nA (c2 aex n)) (jL (nA (c2 agM n)) (jL (lg (c1 TX n)) (jL (Vz (c3 Z5 n)) jQ))))))) jR) func47 nb ntmps47 results47
open Go.Proofs
@[go_sem]def G9(F:jG->Option Tq):=tB true [.arg 0 []] jF (lm 0 kr) jF (kP (l5 jP.row) kr) jF jN (fun(b:T6)(a:Unit)=>F b.1.1)
@[go_sem]def lS:=(lm 0 (alF 288 (vlP 1 (vlP 2 vlN)) kr))
@[go_sem]def kp:=(BP (PC (alC jG.ky 6 kr)) (BP (PC (alA 3 kr)) (BP (PC (lm 0 kr)) (BP (ogA false jP.row) EC))))
@[go_sem]def rV(F:jG->(List jP)->Option Te):=tB true [.arg 0 [],.arg 1 [0],.arg 1 [1],.obj 1 0 []] kp lS kp kr kp jN (fun(b:(Td×(Unit×(Unit×((List jP)×Unit)))))(a:(Unit×Unit))=>F b.1.1 b.2.2.2.1)
@[go_sem]def lh:=(BP (PC (alA 2 kr)) (BP (PC (lm 3 kr)) (BP (ogA false jP.row) (BP (PC (alC jG.ky 6 kr)) EC))))
@[go_sem]def Fk(F:(List jP)->jG->Option Tk):=tB true [.arg 0 [],.arg 1 [],.obj 0 0 [],.obj 1 0 []] lh (lm 0 (lm 1 kr)) lh kr lh jN (fun(b:(Unit×(Unit×((List jP)×T6))))(a:Unit)=>F b.2.2.1 b.2.2.2.1.1)
structure kG where
 nC:jG->Option Tq
 kU:jG->(List jP)->Option Te
 oO:(List jP)->jG->Option Tk
open Go.Proofs
def Gt:wX:=⟨[],[],(zA::zA::zA::zK::zK::zK::Bm (me (me (l7 (l7 (zA::zA::zK::zK::me (l7 (zA::zA::[])))))))),[oT jG.ky,oD,oC [zK],oA jP.row],none,none⟩
@[reducible] def nT(X:kG)(n:Nat):kD Tq:=ol fA f281 n (pd fA [.tmp 2] [] [0] 1 jF (kP (l5 jP.row) kr)) (cl:=nk [(56,zN (pU (mW (yg jG.ky) (lF j8.ky) (k8 n)))),(58,zN (pU (mW (yg jG.ky) (lO .i64) (nN n)))),(59,yM [0] (uF (xG jG.ky) tz) (MZ 0 Kd) (uF (xG jG.ky) tz) (Ml lP II) (fun(b:Td) a=>(kE n) b.1)),(122,yM [0] (uF (xG jG.ky) tz) (MZ 0 (asT lP Kd)) (uF (xG jG.ky) tz) (Ml my II) (fun(b:Td) a=>(kZ n) b.1 a.1))]) (sx:=qk [([0,1,0,1,1,1,1,1,1],Gt)]) (cut:=aft [([1,0,1,0,1,1,1],[3]),([1,1,1,1,1,1,1,1],[3])] [([1,1,0,1,1,1,0,0,1,1],2,0,2,false)]) (nB:=pe [] [0] 1 jF jN) (co:=LO [(74,Rk (pU (S7 (yg jG.ky) (lO .i64) lP my (rL n))))]) (cp:=wP [(60,mS (lB n)),(141,vG (pE n)),(177,rV X.kU),(179,mg (ou n))]) (wL:=lV [60,141,177,179]) (yb:=lV [74]) (yd:=lV [])
def R9(X:kG)(n:Nat):tw (nT X n) [0,1,1,0,0,1,1]=true:=jE
def Sa(X:kG)(n:Nat):Fz (nT X n) [0,1,1,0,0,1,1] 0 3 3 5 3 9 3 11/\Fz (nT X n) [0,1,1,0,0,1,1] 3 15 3 16 3 20 3 24/\Fz (nT X n) [0,1,1,0,0,1,1] 3 25 3 29 3 31 3 33/\Fz (nT X n) [0,1,1,0,0,1,1] 3 37 3 41 3 42 3 46/\aoR (nT X n) [0,1,1,0,0,1,1] 3 48 3 50:=⟨⟨jE,jE,jE,jE⟩,⟨jE,jE,jE,jE⟩,⟨jE,jE,jE,jE⟩,⟨jE,jE,jE,jE⟩,jE,jE⟩
attribute [go_sem] R9 Sa Gt
@[go_sem]abbrev AD(v0:Int)(v1:Int)(v2:Int)(v3:Int)(o0:jG)(r3:List jP)(c3:Nat):jI:=⟨(qA::qA::qA:: .ptr 2 0:: .int .i64 v0:: .int .i64 v1::Bl (mo (mo (mq (mq (qA::qA:: .int .i64 v2:: .int .i64 v3::mo (mq (qA::qA::[])))))))),[.cells (jG.cells o0),.dead,.cells [.acc 3 c3],.acc false 2 (mp jP.cells r3)],1,[]⟩
@[go_sem]abbrev sV:List Kt:=[.blk 1,.cut [1,1,1,1,1,1,1],.at [1,1,1,1,1,1,1]]
abbrev vI:=Int->Int->Int->Int->jG->(List jP)->Option Tq
abbrev AE(X:kG)(n:Nat)(K:List Kt)(Z:vI):Prop:= ∀v0 v1 v2 v3 o0 r3 c3,c3=r3.length->run (nT X n) K (AD v0 v1 v2 v3 o0 r3 c3)=Z v0 v1 v2 v3 o0 r3
def sW(X:kG)(n:Nat):{B:vI->vI // ∀m X0,AE X n (.lq m [0,1,0,1,1,1,1,1,1]::sV) X0-> ∀(v0:Int)(v1:Int)(v2:Int)(v3:Int)(o0:jG)(r3:List jP),run (nT X n) (.at [0,0,1,0,1,1,1,1,1,1]:: .lp m [0,1,0,1,1,1,1,1,1]::sV) (AD v0 v1 v2 v3 o0 r3 (r3.length))=B X0 v0 v1 v2 v3 o0 r3}:=pu
def pJ(X:kG)(n:Nat):Nat->vI:=w8 ((sW X n).1)
def D5(X:kG){n:Nat}:pJ X n (m+1)=(sW X n).1 (pJ X n m):=rfl
@[go_sem]def L5(X:kG)(n:Nat)(m:Nat):AE X n (.lq m [0,1,0,1,1,1,1,1,1]::sV) (pJ X n m):=
 sE (G:=fun m Z=>AE X n (.lq m [0,1,0,1,1,1,1,1,1]::sV) Z) (fun _ _ _ _ _ _ _ _=>lw) (fun m _ ih=>by
  intro v0 v1 v2 v3 o0 r3 c3 ec3;subst ec3;rw[lz];exact(sW X n).2 _ _ ih v0 v1 v2 v3 o0 r3) m
def wF(X:kG)(n:Nat):{B:jG->Option Tq // ∀(o0:jG),run (nT X n) [.at []] (rB (lm 0 kr) jF ((o0,()),()) () 136)=B o0}:=pu
open Go.Proofs
@[go_sem]def rE:wX:=⟨[],[],(zK::zK::zA::zA::zK::l7 (l7 (zA::zA::[]))),[oT jG.ky,oC [zK],oC [zK],oA jP.row],none,none⟩
@[reducible] def oX(X:kG)(n:Nat):kD Te:=ol fA f177 n (pd fA [] [] [0,1,2,3] 4 kp kr) (cl:=nk [(122,yM [0] (uF (xG jG.ky) tz) (MZ 0 (asT lP Kd)) (uF (xG jG.ky) tz) (Ml my II) (fun(b:Td) a=>(kZ n) b.1 a.1))]) (sx:=qk [([0,1],rE)]) (nB:=pe [] [0,1,2,3] 4 kp jN) (cp:=wP [(72,kS (kO n)),(288,Fk X.oO)]) (wL:=lV [72,288])
@[go_sem]abbrev oG(v0:Int)(o0:jG)(r3:List jP)(c3:Nat):jI:=⟨(.ptr 0 0:: .func (.func 288) [] [.ptr 1 0,.ptr 2 0]::qA::qA:: .int .i64 v0::mq (mq (qA::qA::[]))),[.cells (jG.cells o0),.cells [.acc 3 c3],.cells [.ptr 0 0],.acc false 2 (mp jP.cells r3)],4,[]⟩
abbrev mT:=Int->jG->(List jP)->Option Te
abbrev oH(X:kG)(n:Nat)(K:List Kt)(Z:mT):Prop:= ∀v0 o0 r3 c3,c3=r3.length->run (oX X n) K (oG v0 o0 r3 c3)=Z v0 o0 r3
def lT(X:kG)(n:Nat):{B:mT->mT // ∀m X0,oH X n (.lq m [0,1]::[.blk 0]) X0-> ∀(v0:Int)(o0:jG)(r3:List jP),run (oX X n) (.at [0,0,1]:: .lp m [0,1]::[.blk 0]) (oG v0 o0 r3 (r3.length))=B X0 v0 o0 r3}:=pu
def mU(X:kG)(n:Nat):Nat->mT:=w8 ((lT X n).1)
def qS(X:kG){n:Nat}:mU X n (m+1)=(lT X n).1 (mU X n m):=rfl
@[go_sem]def wU(X:kG)(n:Nat)(m:Nat):oH X n (.lq m [0,1]::[.blk 0]) (mU X n m):=
 sE (G:=fun m Z=>oH X n (.lq m [0,1]::[.blk 0]) Z) (fun _ _ _ _ _=>lw) (fun m _ ih=>by
  intro v0 o0 r3 c3 ec3;subst ec3;rw[lz];exact(lT X n).2 _ _ ih v0 o0 r3) m
def ng(X:kG)(n:Nat):{B:jG->(List jP)->Option Te // ∀(o0:jG)(o1:(List jP)),run (oX X n) [.at []] (rB lS kp ((o0,()),(),(),o1,()) ((),()) 15)=B o0 o1}:=pu
open Go.Proofs
@[reducible] def oY(X:kG)(n:Nat):kD Tk:=ol fA f288 n (pd fA [] [] [0,1,2,3] 4 lh kr) (nB:=pe [] [0,1,2,3] 4 lh jN) (co:=LO [(281,EY [.arg 0 []] jF (lm 0 kr) jF (kP (l5 jP.row) kr) jF jN (fun(b:T6)(a:Unit)=>X.nC b.1.1))]) (yb:=lV [281]) (yd:=lV [])
def O3(X:kG)(n:Nat):tw (oY X n) []=true:=jE
def O4(X:kG)(n:Nat):Fz (oY X n) [] 1 2 0 3 1 3 2 3/\Fz (oY X n) [] 0 4 1 4 2 4 3 4:=⟨⟨jE,jE,jE,jE⟩,jE,jE,jE,jE⟩
def O5(X:kG)(n:Nat):GR (oY X n) [] 2 3=true/\GR (oY X n) [] 2 4=true/\MW (oY X n) [] 2=false:=⟨jE,jE,jE⟩
attribute [go_sem] O3 O4 O5
def uR(X:kG)(n:Nat):{B:(List jP)->jG->Option Tk // ∀(o0:(List jP))(o1:jG),run (oY X n) [.at []] (rB (lm 0 (lm 1 kr)) lh ((),(),o0,(o1,()),()) () 6)=B o0 o1}:=pu
open Go.Proofs
def kB:Nat->kG
 |0=>⟨Fu.z,Fu.z,Fu.z⟩
 |n+1=>⟨(wF (kB n) n).1,(ng (kB n) n).1,(uR (kB n) n).1⟩
def nC:jG->Option Tq:=(kB n).nC
def Sb{n:Nat}:nC (n+1)=(wF (kB n) n).1:=rfl
def kU:jG->(List jP)->Option Te:=(kB n).kU
def zw{n:Nat}:kU (n+1)=(ng (kB n) n).1:=rfl
def oO:(List jP)->jG->Option Tk:=(kB n).oO
def O6{n:Nat}:oO (n+1)=(uR (kB n) n).1:=rfl
def pK{n:Nat}:(kB n).nC=nC n/\(kB n).kU=kU n/\(kB n).oO=oO n:=⟨rfl,rfl,rfl⟩
def uS: ∀n:Nat,(∀(o0:jG)(r:Tq),(kB n).nC o0=some r->SP fA 281 (lm 0 kr) jF ((o0,()),()) () true jF (kP (l5 jP.row) kr) jF jN r)/\(∀(o0:jG)(o1:(List jP))(r:Te),(kB n).kU o0 o1=some r->SP fA 177 lS kp ((o0,()),(),(),o1,()) ((),()) true kp kr kp jN r)/\(∀(o0:(List jP))(o1:jG)(r:Tk),(kB n).oO o0 o1=some r->SP fA 288 (lm 0 (lm 1 kr)) lh ((),(),o0,(o1,()),()) () true lh kr lh jN r)
 |0=>⟨fun _ _ h=>(by cases h),fun _ _ _ h=>(by cases h),fun _ _ _ h=>(by cases h)⟩
 |n+1=>by
  obtain⟨QI,ye,NH⟩:=uS n
  exact⟨fun o0 r h=>P2 (((wF (kB n) n).2 o0).trans h) (gdM (jL (nQ (mh (c1 lc n))) (jL (nQ (mh (c1 qV n))) (jL (n7 (fun b a r h=>(kY n) b.1 r h)) (jL (n7 (fun b a r h=>(lj n) b.1 a.1 r h)) jQ)))) jR (p:=(jX (kw (nh n)) (jX (kw (zu n)) (jX (kw (fun b a r h=>(ye) b.1.1 b.2.2.2.1 r h)) (jX (kw (BK n)) kR))))) (c:=(mi (IL (Og (c3 ve n))) rJ))) func281 ntmps281 results281,
   fun o0 o1 r h=>P2 (((ng (kB n) n).2 o0 o1).trans h) (gd (jL (n7 (fun b a r h=>(lj n) b.1 a.1 r h)) jQ) jR (p:=(jX (kw (lE n)) (jX (kw (fun b a r h=>(NH) b.2.2.1 b.2.2.2.1.1 r h)) kR)))) func177 ntmps177 results177,
   fun o0 o1 r h=>P2 (((uR (kB n) n).2 o0 o1).trans h) (gd jQ jR (c:=(mi (we (fun b a r h=>(QI) b.1.1 r h)) rJ))) func288 ntmps288 results288⟩
def QJ: ∀(o0:jG)(r:Tq),nC n o0=some r->SP fA 281 (lm 0 kr) jF ((o0,()),()) () true jF (kP (l5 jP.row) kr) jF jN r:=(uS n).1
def N2: ∀(o0:jG)(o1:(List jP))(r:Te),kU n o0 o1=some r->SP fA 177 lS kp ((o0,()),(),(),o1,()) ((),()) true kp kr kp jN r:=(uS n).2.1
def aey: ∀(o0:(List jP))(o1:jG)(r:Tk),oO n o0 o1=some r->SP fA 288 (lm 0 (lm 1 kr)) lh ((),(),o0,(o1,()),()) () true lh kr lh jN r:=(uS n).2.2
open Go.Proofs
@[go_sem]def YX:wX:=⟨[],[],(zT (l5 jH.row)::zA::zA::zK::zA::zA::zK::me (me (l7 (l7 (zA::zA::zA::[]))))),[oT jH.ky],none,none⟩
@[reducible] def UN:kD Int:=ol fA f69 n (nE fA [.tmp 4] (lO .i64)) (cl:=nk [(114,mW (lF jH.ky) (lO .i64) (ME n)),(115,rI (lF jH.ky) (lF jH.ky) my (zj n))]) (cd:=KO [(115,pU (rI (lF jH.ky) (lF jH.ky) my (zj n))),(116,pU (mW (lF jH.ky) my (Ag n))),(117,pU (mW (lF jH.ky) lP (HI n)))]) (sx:=qk [([0,1,0,1,1,1,1],YX)]) (yb:=lV []) (yd:=lV [])
@[go_sem]def ajC:tw (UN n) [0,0,0,1,0,0,1,0,1,1,1,1]=true:=jE
@[go_sem]abbrev YY(v0:List jH)(v1:Int)(o0:jH):jI:=⟨(.lI false 4 (mp jH.cells v0)::qA::qA:: .ptr 0 0::qA::qA:: .int .i64 v1::mo (mo (mq (mq (qA::qA::qA::[]))))),[.cells (jH.cells o0)],0,[]⟩
abbrev YZ:=(List jH)->Int->jH->Option Int
abbrev agV(K:List Kt)(Z:YZ):Prop:= ∀v0 v1 o0,run (UN n) K (YY v0 v1 o0)=Z v0 v1 o0
def Gu:LB (agV n) [0,1,0,1,1,1,1] [.blk 0,.cut [1,1,1,1,1],.at [1,1,1,1,1]]:=mB
def C1:Nat->YZ:=w8 ((Gu n).1)
def UO{n:Nat}:C1 n (m+1)=(Gu n).1 (C1 n m):=rfl
@[go_sem]def abE(m:Nat):=Ij (Gu n) (C1 n) m
def UP:{B:(List jH)->jH->Option Int // ∀(a0:(List jH))(a1:jH),run (UN n) [.at []] (xI [(l5 jH.row).enc a0,(lF jH.ky).enc a1] 50)=B a0 a1}:=mB
def VJ:=fu fun n=>(UP n).1
def agW:zO fA 69 (kP (l5 jH.row) (kP (lF jH.ky) kr)) (lO .i64) (fun n a=>VJ n a.1 a.2.1):=fC fun n a r h nb=>AQ (((UP n).2 _ _).trans h) (gd (jL (lg (c1 adn n)) (jL (nA (c2 Mz n)) jQ)) (nP (ui (c2 Mz n)) (nP (mh (c1 DS n)) (nP (mh (c1 WP n)) jR)))) func69 nb ntmps69 results69
def WV:wX:=⟨[(15,3,true)],[],(zK::l7 (zA::zA::zK::l7 (zA::zA::zK::zK::Bm (me (me (me [])))))),[oK,oK,oK,oC [zK,zK,zK,zK,zK],oC [zK,zK,zK,zK],oA j8.row],none,none⟩
def WW:wX:=⟨[],[],(zK::l7 (zA::zA::zK::me (me (zA::zA::zT (l5 ai8)::zK::zK::zA::zA::zA::zT (l5 l6)::zK::zK::Bm (l7 (l7 (l7 (zA::[])))))))),[oK,oK,oK,oC [zK,zK,zK,zK,zK]],none,none⟩
def WX:wX:=⟨[],[],(zK::l7 (zA::zA::zK::me (me (zA::zA::zT (l5 ai8)::zK::zK::Bm (me (zA::zA::zA::[])))))),[oK,oK,oK,oC [zK,zK,zK,zK,zK]],none,none⟩
def WY:wX:=⟨[],[],(zK::zT (l5 l6)::l7 (zA::zK::me (zA::zT (l5 l6)::zK::zK::Bm (me (me (l7 [])))))),[oK,oK,oK,oC [zK,zK,zK,zK,zK]],none,none⟩
@[reducible] def xn:kD Tx:=ol fA f118 n (nE fA [.tmp 4,.tmp 5,.tmp 6] (Yk (l5 j8.row) (lO .i64) (lO .i64))) (cl:=nk [(148,HR (Cg n)),(149,mW lP my (Gn n)),(150,Ym (l5 l6) (IX n)),(151,sJ (xc n)),(152,sJ (As n)),(153,sJ (xk n)),(154,sJ (xl n)),(155,Jc (tT n)),(156,mW (lO .u8) (lO .i64) (zW n))]) (sx:=qk [([0,1,0,1,1,1,1,1,1,1],WV),([0,1,1,0,0,1,1,0,0,1,0,1,1,1],WW),([0,1,0,1,1,1],WX),([0,1,0,1,1],WY)]) (yb:=lV []) (yd:=lV [])
def agX:tw (xn n) [0,1,1,0,0,1,0,0,1,0,1,1,1,1,1,1,1]=true:=jE
def agY:aoS (xn n) [0,1,1,0,0,1,0,0,1,0,1,1,1,1,1,1,1] 6 15 8 15 12 15:=⟨jE,jE,jE⟩
attribute [go_sem] agX agY WV WW WX WY
abbrev NI(v0:Str)(r0:List (Str×Bool))(r1:List (Str×Bool))(r2:List (Str×Bool))(v4:Str)(v5:Int)(r5:List j8)(c5:Nat):jI:=⟨(.str (sb v0)::mq (qA::qA:: .ptr 3 0::mq (qA::qA:: .ptr 4 0:: .acc 5 c5::Bl (mo (mo (mo [])))))),[.map (mp CM r0),.map (mp CM r1),.map (mp CM r2),.cells [.str (sb v4),.int .i64 v5,.map 0,.map 1,.map 2],.cells [.func (.func 151) [.ptr 3 0] [],.func (.func 152) [.ptr 3 0] [],.func (.func 153) [.ptr 3 0] [],.func (.func 154) [.ptr 3 0] []],.acc true 3 (mp j8.cells r5)],0,[]⟩
abbrev D6:List Kt:=[.blk 6,.cut [1,1,1,1,1,1,1,1],.at [1,1,1,1,1,1,1,1]]
abbrev Is:=Str->T9->T9->T9->Str->Int->(List j8)->Option Tx
abbrev NJ(K:List Kt)(Z:Is):Prop:= ∀v0 r0 r1 r2 v4 v5 r5 c5,c5=r5.length->run (xn n) K (NI v0 r0 r1 r2 v4 v5 r5 c5)=Z v0 r0 r1 r2 v4 v5 r5
abbrev WZ(v0:Str)(v1:List (List Str))(v2:Int)(v3:Int)(v4:List Str)(v5:Int)(v6:Int)(r0:List (Str×Bool))(r1:List (Str×Bool))(r2:List (Str×Bool))(v10:Str):jI:=⟨(.str (sb v0)::mq (qA::qA:: .ptr 3 0::mo (mo (qA::qA:: .lI false 1 (mp S9 v1):: .int .i64 v2:: .int .i64 v3::qA::qA::qA:: .lI false 1 (mp mA v4):: .int .i64 v5:: .int .i64 v6::Bl (mq (mq (mq (qA::[])))))))),[.map (mp CM r0),.map (mp CM r1),.map (mp CM r2),.cells [.str (sb v10),.int .i64 0,.map 0,.map 1,.map 2]],0,[]⟩
abbrev W0(m3:Nat):List Kt:=[.blk 4,.blk 3,.cut [1,1,1,0,0,1,0,1,1,1],.at [1,1,1,0,0,1,0,1,1,1],.lp m3 [0,1,0,1,1,1],.blk 2,.cut [1,1,1,1],.at [1,1,1,1]]
abbrev W1:=Str->(List (List Str))->Int->Int->(List Str)->Int->Int->T9->T9->T9->Str->Option Tx
abbrev aez(K:List Kt)(Z:W1):Prop:= ∀v0 v1 v2 v3 v4 v5 v6 r0 r1 r2 v10,run (xn n) K (WZ v0 v1 v2 v3 v4 v5 v6 r0 r1 r2 v10)=Z v0 v1 v2 v3 v4 v5 v6 r0 r1 r2 v10
abbrev W2(v0:Str)(v1:List (List Str))(v2:Int)(v3:Int)(r0:List (Str×Bool))(r1:List (Str×Bool))(r2:List (Str×Bool))(v7:Str):jI:=⟨(.str (sb v0)::mq (qA::qA:: .ptr 3 0::mo (mo (qA::qA:: .lI false 1 (mp S9 v1):: .int .i64 v2:: .int .i64 v3::Bl (mo (qA::qA::qA::[])))))),[.map (mp CM r0),.map (mp CM r1),.map (mp CM r2),.cells [.str (sb v7),.int .i64 0,.map 0,.map 1,.map 2]],0,[]⟩
abbrev It:=Str->(List (List Str))->Int->Int->T9->T9->T9->Str->Option Tx
abbrev NK(K:List Kt)(Z:It):Prop:= ∀v0 v1 v2 v3 r0 r1 r2 v7,run (xn n) K (W2 v0 v1 v2 v3 r0 r1 r2 v7)=Z v0 v1 v2 v3 r0 r1 r2 v7
abbrev W3(v0:Str)(v1:List Str)(v2:List Str)(v3:Int)(v4:Int)(r0:List (Str×Bool))(r1:List (Str×Bool))(r2:List (Str×Bool))(v8:Str):jI:=⟨(.str (sb v0):: .lI false 1 (mp mA v1)::mq (qA:: .ptr 3 0::mo (qA:: .lI false 1 (mp mA v2):: .int .i64 v3:: .int .i64 v4::Bl (mo (mo (mq [])))))),[.map (mp CM r0),.map (mp CM r1),.map (mp CM r2),.cells [.str (sb v8),.int .i64 0,.map 0,.map 1,.map 2]],0,[]⟩
abbrev W4:=Str->(List Str)->(List Str)->Int->Int->T9->T9->T9->Str->Option Tx
abbrev aeA(K:List Kt)(Z:W4):Prop:= ∀v0 v1 v2 v3 v4 r0 r1 r2 v8,run (xn n) K (W3 v0 v1 v2 v3 v4 r0 r1 r2 v8)=Z v0 v1 v2 v3 v4 r0 r1 r2 v8
attribute [go_sem] NI D6 WZ W0 W2 W3
def Iu:{B:Is->Is // ∀m X0,NJ n (.lq m [0,1,0,1,1,1,1,1,1,1]::D6) X0-> ∀(v0:Str)(r0:List (Str×Bool))(r1:List (Str×Bool))(r2:List (Str×Bool))(v4:Str)(v5:Int)(r5:List j8),run (xn n) (.at [0,0,1,0,1,1,1,1,1,1,1]:: .lp m [0,1,0,1,1,1,1,1,1,1]::D6) (NI v0 r0 r1 r2 v4 v5 r5 (r5.length))=B X0 v0 r0 r1 r2 v4 v5 r5}:=mB
def xX:Nat->Is:=w8 ((Iu n).1)
def abF{n:Nat}:xX n (m+1)=(Iu n).1 (xX n m):=rfl
@[go_sem]def O7(m:Nat):NJ n (.lq m [0,1,0,1,1,1,1,1,1,1]::D6) (xX n m):=
 sE (G:=fun m Z=>NJ n (.lq m [0,1,0,1,1,1,1,1,1,1]::D6) Z) (fun _ _ _ _ _ _ _ _ _=>lw) (fun m _ ih=>by
  intro v0 r0 r1 r2 v4 v5 r5 c5 ec5;subst ec5;rw[lz];exact(Iu n).2 _ _ ih v0 r0 r1 r2 v4 v5 r5) m
def D7:LB2 (NK n) [0,1,0,1,1,1] [.blk 2,.cut [1,1,1,1],.at [1,1,1,1]] (aez n) [0,1,1,0,0,1,1,0,0,1,0,1,1,1] W0:=mB
def vQ(X3:It):Nat->W1:=w8 ((D7 n).1 X3)
def RQ{n:Nat}(X3:It):vQ n X3 (m+1)=(D7 n).1 X3 (vQ n X3 m):=rfl
def aac{m3:Nat}{X3}(h3:NK n (.lq m3 [0,1,0,1,1,1]::[.blk 2,.cut [1,1,1,1],.at [1,1,1,1]]) X3)(m:Nat):=arn (D7 n) h3 (vQ n X3) m
def Bh:LB (NK n) [0,1,0,1,1,1] [.blk 2,.cut [1,1,1,1],.at [1,1,1,1]]:=by
 apply Subtype.mk;intro m X0 ih v0 v1 v2 v3 r0 r1 r2 v7;simp (config:={maxSteps:=100000000}) only[go_sem,fG,fH,fB,fD,fI,fJ,fL,fM,fN,fE,fK,fO,f118,fF,mixed,O7 n,aac n ih,ih];exact rfl
def sD:Nat->It:=w8 ((Bh n).1)
def JL{n:Nat}:sD n (m+1)=(Bh n).1 (sD n m):=rfl
@[go_sem]def aad(m:Nat):=Ij (Bh n) (sD n) m
def D8:LB (aeA n) [0,1,0,1,1] [.blk 0,.cut [1,1,1],.at [1,1,1]]:=mB
def D9:Nat->W4:=w8 ((D8 n).1)
def RR{n:Nat}:D9 n (m+1)=(D8 n).1 (D9 n m):=rfl
@[go_sem]def aae(m:Nat):=Ij (D8 n) (D9 n) m
def QK:{B:Str->(List Str)->Option Tx // ∀(a0:Str)(a1:(List Str)),run (xn n) [.at []] (xI [lP.enc a0,(l5 l6).enc a1] 128)=B a0 a1}:=mB
def Lt:=fu fun n=>(QK n).1
def aeB:zO fA 118 (kP lP (kP (l5 l6) kr)) (Yk (l5 j8.row) (lO .i64) (lO .i64)) (fun n a=>Lt n a.1 a.2.1):=fC fun n a r h nb=>AQ (((QK n).2 _ _).trans h) (gd (jL (BE (MA n)) (jL (lg (c1 RO n)) (jL (Mk (c0 Un n)) (jL (BE (Ou n)) (jL (BE (R5 n)) (jL (BE (OT n)) (jL (BE (OZ n)) (jL (BE (R8 n)) (jL (lg (c1 B0 n)) jQ))))))))) jR) func118 nb ntmps118 results118
@[go_sem]def Cs:wX:=⟨[],[],(zK::zA::zA::zK::l7 (l7 (l7 (zA::zA::zA::[])))),[oT jG.ky,oA l6],none,none⟩
@[go_sem]def BL:wX:=⟨[],[],(zK::zA::zA::zL l6::l7 (l7 (l7 (zA::zA::zA::[])))),[oT jG.ky],(some 3),none⟩
@[go_sem]def Dj(F:jG->Option TE):=tB true [.arg 0 []] jF (lm 0 kr) jF (kP (l5 l6) kr) jF jN (fun(b:T6)(a:Unit)=>F b.1.1)
@[reducible] def qN:kD TE:=ol fA f294 n (pd fA [.tmp 2] [] [0] 1 jF (kP (l5 l6) kr)) (cl:=nk [(59,yM [0] (uF (xG jG.ky) tz) (MZ 0 Kd) (uF (xG jG.ky) tz) (Ml lP II) (fun(b:Td) a=>(kE n) b.1)),(123,zN (pU (mW (yg jG.ky) my (pR n))))]) (sx:=qk [([0,0,1,1],BL),([0,0,1,1],Cs)]) (nB:=pe [] [0] 1 jF jN) (cp:=wP [(72,kS (kO n)),(119,mg (nF n))]) (wL:=lV [72,119])
@[go_sem]abbrev wo(o0:jG)(r1:List Str)(c1:Nat):jI:=⟨(.ptr 0 0::qA::qA:: .acc 1 c1::mq (mq (mq (qA::qA::qA::[])))),[.cells (jG.cells o0),.acc true 1 (mp mA r1)],1,[]⟩
abbrev sX:=jG->(List Str)->Option TE
abbrev wq(K:List Kt)(Z:sX):Prop:= ∀o0 r1 c1,c1=r1.length->run (qN n) K (wo o0 r1 c1)=Z o0 r1
def qo:{B:sX->sX // ∀m X0,wq n (.lq m [0,0,1,1]::[.blk 0,.cut [1,1,1],.at [1,1,1]]) X0-> ∀(o0:jG)(r1:List Str),run (qN n) (.at [0,0,0,1,1]:: .lp m [0,0,1,1]::[.blk 0,.cut [1,1,1],.at [1,1,1]]) (wo o0 r1 (r1.length))=B X0 o0 r1}:=by
 apply Subtype.mk;intro m X0 ih o0 r1;simp (config:={maxSteps:=100000000}) only[go_sem,fG,fH,fB,fD,fI,fJ,fL,fM,fN,fE,fK,fO,f294,fF,mixed,ih];exact rfl
def sY:Nat->sX:=w8 ((qo n).1)
def Bb{n:Nat}:sY n (m+1)=(qo n).1 (sY n m):=rfl
def zY(m:Nat):wq n (.lq m [0,0,1,1]::[.blk 0,.cut [1,1,1],.at [1,1,1]]) (sY n m):=
 sE (G:=fun m Z=>wq n (.lq m [0,0,1,1]::[.blk 0,.cut [1,1,1],.at [1,1,1]]) Z) (fun _ _ _ _=>lw) (fun m _ ih=>by
  intro o0 r1 c1 ec1;subst ec1;rw[lz];exact(qo n).2 _ _ ih o0 r1) m
def vJ:{B:Nat->(List Str)->jG->Option TE // ∀(m:Nat)(v0:List Str)(o0:jG),run (qN n) [.at [0,0,0,1,1],.lp m [0,0,1,1],.blk 0,.cut [1,1,1],.at [1,1,1]] ⟨[.ptr 0 0,qA,qA,.lI true 1 (mp mA v0),qA,qA,qA,qA,qA,qA,qA,qA,qA,qA,qA,qA,qA,qA,qA],[.cells (jG.cells o0)],1,[]⟩=B m v0 o0}:=by
 apply Subtype.mk;intro m v0 o0;simp (config:={maxSteps:=100000000}) only[go_sem,fG,fH,fB,fD,fI,fJ,fL,fM,fN,fE,fK,fO,f294,fF,mixed,zY n];exact rfl
def wu:Nat->(List Str)->jG->Option TE
 |0,_,_=>none
 |m+1,v0,o0=>(vJ n).1 m v0 o0
def Jd: ∀(m:Nat),(∀(v0:List Str)(o0:jG),run (qN n) [.lq m [0,0,1,1],.blk 0,.cut [1,1,1],.at [1,1,1]] ⟨[.ptr 0 0,qA,qA,.lI true 1 (mp mA v0),qA,qA,qA,qA,qA,qA,qA,qA,qA,qA,qA,qA,qA,qA,qA],[.cells (jG.cells o0)],1,[]⟩=wu n m v0 o0)
 |0=>by intros;exact lw
 |m+1=>by
  intro v0 o0;rw[lz];exact(vJ n).2 m v0 o0
def wV:{B:jG->Option TE // ∀(o0:jG),run (qN n) [.at []] (rB (lm 0 kr) jF ((o0,()),()) () 19)=B o0}:=by
 apply Subtype.mk;intro o0;simp (config:={maxSteps:=100000000}) only[go_sem,fG,fH,fB,fD,fI,fJ,fL,fM,fN,fE,fK,fO,f294,fF,mixed,zY n,Jd n];exact rfl
def uT:=fu fun n=>(wV n).1
def Lu:OKP fA 294 (lm 0 kr) jF true jF (kP (l5 l6) kr) jF jN (fun n b a=>uT n b.1.1):=fP fun n b a r h=>P2 (((wV n).2 b.1.1).trans h) (gd (jL (n7 (fun b a r h=>(kY n) b.1 r h)) (jL (nQ (mh (c1 vF n))) jQ)) jR (p:=(jX (kw (lE n)) (jX (kw (qM n)) kR)))) func294 ntmps294 results294
@[go_sem]def MI:wX:=⟨[],[],(zA::zK::me (me (l7 (l7 (zA::zA::zA::zT (l5 l6)::zK::zK::me (me (l7 (l7 (zA::zA::[]))))))))),[oT jH.ky],none,none⟩
@[go_sem]def MJ:wX:=⟨[],[],(zA::zK::zA::zK::l7 (l7 (l7 (zA::zA::zA::zT (l5 l6)::zK::zK::Bm (l7 []))))),[oT jH.ky],none,none⟩
@[reducible] def HT:kD Int:=ol fA f242 n (nE fA [.tmp 2] (lO .i64)) (cl:=nk [(149,mW lP my (Gn n)),(244,mW (lF jH.ky) my (xM n)),(245,mW (lF jH.ky) my (yT n)),(260,mW lP my (VH n))]) (sx:=qk [([0,1,0,1,1,1,1,1],MI),([0,1,0,1,1,1],MJ)])
@[go_sem]abbrev MK(v0:List Str)(v1:Int)(v2:Int)(o0:jH):jI:=⟨(qA:: .ptr 0 0::mo (mo (mq (mq (qA::qA::qA:: .lI false 1 (mp mA v0):: .int .i64 v1:: .int .i64 v2::mo (mo (mq (mq (qA::qA::[]))))))))),[.cells (jH.cells o0)],0,[]⟩
abbrev ML:=(List Str)->Int->Int->jH->Option Int
abbrev Y0(K:List Kt)(Z:ML):Prop:= ∀v0 v1 v2 o0,run (HT n) K (MK v0 v1 v2 o0)=Z v0 v1 v2 o0
@[go_sem]abbrev MM(v0:Int)(v1:List Str)(v2:Int)(v3:Int)(o0:jH):jI:=⟨(qA:: .ptr 0 0::qA:: .int .i64 v0::mq (mq (mq (qA::qA::qA:: .lI false 1 (mp mA v1):: .int .i64 v2:: .int .i64 v3::Bl (mq []))))),[.cells (jH.cells o0)],0,[]⟩
abbrev MN:=Int->(List Str)->Int->Int->jH->Option Int
abbrev Y1(K:List Kt)(Z:MN):Prop:= ∀v0 v1 v2 v3 o0,run (HT n) K (MM v0 v1 v2 v3 o0)=Z v0 v1 v2 v3 o0
def xo:LB (Y0 n) [0,1,0,1,1,1,1,1] [.blk 2,.cut [1,1,1,1,1,1],.at [1,1,1,1,1,1]]:=mB
def uU:Nat->ML:=w8 ((xo n).1)
def J4{n:Nat}:uU n (m+1)=(xo n).1 (uU n m):=rfl
@[go_sem]def UQ(m:Nat):=Ij (xo n) (uU n) m
def xp:LB (Y1 n) [0,1,0,1,1,1] [.blk 0,.cut [1,1,1,1],.at [1,1,1,1]]:=mB
def xq:Nat->MN:=w8 ((xp n).1)
def J5{n:Nat}:xq n (m+1)=(xp n).1 (xq n m):=rfl
@[go_sem]def UR(m:Nat):=Ij (xp n) (xq n) m
def HU:{B:jH->Option Int // ∀(a0:jH),run (HT n) [.at []] (xI [(lF jH.ky).enc a0] 90)=B a0}:=mB
def Gv:=fu fun n=>(HU n).1
def Y2:zO fA 242 (kP (lF jH.ky) kr) (lO .i64) (fun n a=>Gv n a.1):=fC fun n a r h nb=>AQ (((HU n).2 _).trans h) (gd (jL (lg (c1 RO n)) (jL (lg (c1 CU n)) (jL (lg (c1 F2 n)) (jL (lg (c1 agR n)) jQ)))) jR) func242 nb ntmps242 results242
@[go_sem]def W5:wX:=⟨[(8,3,true)],[],(zK::zT (l5 l6)::l7 (zA::zA::zK::zK::me (me (me (l7 (l7 [])))))),[oA j8.row],none,none⟩
@[go_sem]def W6:wX:=⟨[],[],(zK::zT (l5 l6)::l7 (zA::zK::me (me (me (l7 (l7 (zA::zA::[]))))))),[],none,none⟩
@[reducible] def Ko:kD Tx:=ol fA f21 n (nE fA [.tmp 4,.tmp 5,.tmp 6] (Yk (l5 j8.row) (lO .i64) (lO .i64))) (cl:=nk [(45,mW lP my (Gi n)),(46,rI lP (lO .i64) (lO .i64) (Qh n)),(47,S7 lP (lO .i64) (l5 l6) (Yk (lO .i64) (lO .i64) (lO .i64)) (VI n))]) (sx:=qk [([0,1,0,1,1,1,1],W5),([0,1,0,1],W6)])
@[go_sem]abbrev NL(v0:Str)(v1:List Str)(v2:Int)(r0:List j8)(c0:Nat):jI:=⟨(.str (sb v0):: .lI false 1 (mp mA v1)::mq (qA::qA:: .acc 0 c0:: .int .i64 v2::mo (mo (mo (mq (mq [])))))),[.acc true 3 (mp j8.cells r0)],0,[]⟩
abbrev Iv:=Str->(List Str)->Int->(List j8)->Option Tx
abbrev NM(K:List Kt)(Z:Iv):Prop:= ∀v0 v1 v2 r0 c0,c0=r0.length->run (Ko n) K (NL v0 v1 v2 r0 c0)=Z v0 v1 v2 r0
@[go_sem]abbrev W7(v0:Str)(v1:List Str)(v2:Int):jI:=⟨(.str (sb v0):: .lI false 1 (mp mA v1)::mq (qA:: .int .i64 v2::mo (mo (mo (mq (mq (qA::qA::[]))))))),[],0,[]⟩
abbrev W8:=Str->(List Str)->Int->Option Tx
abbrev aeC(K:List Kt)(Z:W8):Prop:= ∀v0 v1 v2,run (Ko n) K (W7 v0 v1 v2)=Z v0 v1 v2
def Iw:{B:Iv->Iv // ∀m X0,NM n (.lq m [0,1,0,1,1,1,1]::[.blk 2,.cut [1,1,1,1,1],.at [1,1,1,1,1]]) X0-> ∀(v0:Str)(v1:List Str)(v2:Int)(r0:List j8),run (Ko n) (.at [0,0,1,0,1,1,1,1]:: .lp m [0,1,0,1,1,1,1]::[.blk 2,.cut [1,1,1,1,1],.at [1,1,1,1,1]]) (NL v0 v1 v2 r0 (r0.length))=B X0 v0 v1 v2 r0}:=mB
def Ea:Nat->Iv:=w8 ((Iw n).1)
def abG{n:Nat}:Ea n (m+1)=(Iw n).1 (Ea n m):=rfl
@[go_sem]def aaf(m:Nat):NM n (.lq m [0,1,0,1,1,1,1]::[.blk 2,.cut [1,1,1,1,1],.at [1,1,1,1,1]]) (Ea n m):=
 sE (G:=fun m Z=>NM n (.lq m [0,1,0,1,1,1,1]::[.blk 2,.cut [1,1,1,1,1],.at [1,1,1,1,1]]) Z) (fun _ _ _ _ _ _=>lw) (fun m _ ih=>by
  intro v0 v1 v2 r0 c0 ec0;subst ec0;rw[lz];exact(Iw n).2 _ _ ih v0 v1 v2 r0) m
def Eb:LB (aeC n) [0,1,0,1] [.blk 0,.cut [1,1],.at [1,1]]:=mB
def Ed:Nat->W8:=w8 ((Eb n).1)
def RT{n:Nat}:Ed n (m+1)=(Eb n).1 (Ed n m):=rfl
@[go_sem]def aag(m:Nat):=Ij (Eb n) (Ed n) m
def QL:{B:Str->(List Str)->Option Tx // ∀(a0:Str)(a1:(List Str)),run (Ko n) [.at []] (xI [lP.enc a0,(l5 l6).enc a1] 66)=B a0 a1}:=mB
def Lv:=fu fun n=>(QL n).1
def aeD:zO fA 21 (kP lP (kP (l5 l6) kr)) (Yk (l5 j8.row) (lO .i64) (lO .i64)) (fun n a=>Lv n a.1 a.2.1):=fC fun n a r h nb=>AQ (((QL n).2 _ _).trans h) (gd (jL (lg (c1 RB n)) (jL (nA (c2 aeo n)) (jL (Vz (c3 agU n)) jQ))) jR) func21 nb ntmps21 results21
open Go.Proofs
@[go_sem]def US:wX:=⟨[],[],(zT (l5 jH.row)::zA::zA::zK::l7 (l7 (l7 (zA::zA::zA::[])))),[],none,none⟩
@[reducible] def NN:kD Bool:=ol fA f30 n (nE fA [.tmp 2] my) (cd:=KO [(69,pU (rI (l5 jH.row) (lF jH.ky) (lO .i64) (VJ n)))]) (sx:=qk [([0,1,0,1],US)]) (yb:=lV []) (yd:=lV [])
@[go_sem]def aeE:tw (NN n) [0,0,0,1,0,0,1,0,1]=true:=jE
@[go_sem]abbrev UT(v0:List jH)(v1:Int):jI:=⟨(.lI false 4 (mp jH.cells v0)::qA::qA:: .int .i64 v1::mq (mq (mq (qA::qA::qA::[])))),[],0,[]⟩
abbrev zx:=(List jH)->Int->Option Bool
abbrev ado(K:List Kt)(Z:zx):Prop:= ∀v0 v1,run (NN n) K (UT v0 v1)=Z v0 v1
def Ct:LB (ado n) [0,1,0,1] [.blk 0,.cut [1,1],.at [1,1]]:=mB
def Cu:Nat->zx:=w8 ((Ct n).1)
def O8{n:Nat}:Cu n (m+1)=(Ct n).1 (Cu n m):=rfl
@[go_sem]def Y3(m:Nat):=Ij (Ct n) (Cu n) m
def NO:{B:(List jH)->Option Bool // ∀(a0:(List jH)),run (NN n) [.at []] (xI [(l5 jH.row).enc a0] 19)=B a0}:=mB
def Je:=fu fun n=>(NO n).1
def adp:zO fA 30 (kP (l5 jH.row) kr) my (fun n a=>Je n a.1):=fC fun n a r h nb=>AQ (((NO n).2 _).trans h) (gd jQ (nP (ui (c2 agW n)) jR)) func30 nb ntmps30 results30
@[go_sem]def yw:=(kP lP (kP (lO .i64) (kP (lO .i64) (kP (l5 l6) kr))))
@[go_sem]def Lw(F:Str->Int->Int->(List Str)->Option TF):=tB true [] EC yw EC (kP (lF jU.ky) kr) EC jN (fun(b:Unit)(a:(Str×(Int×(Int×To))))=>F a.1 a.2.1 a.2.2.1 a.2.2.2.1)
@[reducible] def XI:kD TF:=ol fA f71 n (pd fA [.cell 8 100] [] [] 0 EC (kP (lF jU.ky) kr)) (cl:=nk [(118,rI lP (l5 l6) (Yk (l5 j8.row) (lO .i64) (lO .i64)) (Lt n))]) (nB:=pe [] [] 0 EC jN)
def EI:{B:Str->Int->Int->(List Str)->Option TF // ∀(a0:Str)(a1:Int)(a2:Int)(a3:(List Str)),run (XI n) [.at []] (rB yw EC () (a0,a1,a2,a3,()) 33)=B a0 a1 a2 a3}:=pu
def C2:=fu fun n=>(EI n).1
def Wk:OKP fA 71 yw EC true EC (kP (lF jU.ky) kr) EC jN (fun n b a=>C2 n a.1 a.2.1 a.2.2.1 a.2.2.2.1):=fP fun n b a r h=>P2 (((EI n).2 a.1 a.2.1 a.2.2.1 a.2.2.2.1).trans h) (gd (jL (nA (c2 aeB n)) jQ) jR) func71 ntmps71 results71
@[go_sem]def Bx(F:jG->Option TB):=tB true [.arg 0 []] jF (lm 0 kr) jF (kP (lF jM.ky) kr) jF jN (fun(b:T6)(a:Unit)=>F b.1.1)
@[reducible] def Sc:kD TB:=ol fA f274 n (pd fA [.cell 2 80] [] [0] 1 jF (kP (lF jM.ky) kr)) (cl:=nk [(122,yM [0] (uF (xG jG.ky) tz) (MZ 0 (asT lP Kd)) (uF (xG jG.ky) tz) (Ml my II) (fun(b:Td) a=>(kZ n) b.1 a.1))]) (nB:=pe [] [0] 1 jF jN) (cp:=wP [(281,G9 (nC n))]) (wL:=lV [281])
def By:{B:jG->Option TB // ∀(o0:jG),run (Sc n) [.at []] (rB (lm 0 kr) jF ((o0,()),()) () 11)=B o0}:=pu
def vg:=fu fun n=>(By n).1
def Gw:OKP fA 274 (lm 0 kr) jF true jF (kP (lF jM.ky) kr) jF jN (fun n b a=>vg n b.1.1):=fP fun n b a r h=>P2 (((By n).2 b.1.1).trans h) (gd (jL (n7 (fun b a r h=>(lj n) b.1 a.1 r h)) jQ) jR (p:=(jX (kw (fun b a r h=>(QJ n) b.1.1 r h)) kR))) func274 ntmps274 results274
def He:wX:=⟨[],[],(zK::Bm (l7 (l7 (l7 (zA::zA::zA::zT (l5 l6)::zK::zK::me (zA::zA::[])))))),[oC [zK,zK,zK,zK],oM (lF jH.ky),oM (lF jH.ky),oK],none,none⟩
def Hf:wX:=⟨[],[],(zK::zA::zA::zK::zA::zA::zK::zK::zT (l5 l6)::me (me (l7 (l7 (l7 (zA::zA::zA::zT (l5 l6)::zK::zK::me (me (l7 (l7 (zA::zA::[])))))))))),[oC [zK,zK,zK,zK],oM (lF jH.ky),oM (lF jH.ky),oK,oT jH.ky],none,(some (6,2))⟩
def Hg:wX:=⟨[],[],(zK::zA::zA::zK::zA::zA::zK::zK::zT (l5 l6)::me (me (l7 (l7 (l7 (zA::zA::zA::zT (l5 l6)::zK::zK::me (me (l7 (l7 (zA::zA::[])))))))))),[oC [zK,zK,zK,zK],oM (lF jH.ky),oM (lF jH.ky),oK,oT jH.ky],none,(some (6,1))⟩
@[go_sem]def Jf(F:jH->Int->Tb->Tb->T9->Option TL):=Yr [.arg 0 [],.obj 0 0 [],.obj 0 1 [],.obj 0 2 []] kJ (lm 0 (kP (lF jH.ky) kr)) kJ (kP (lO .i64) kr) (fun(b:Tf)(a:(jH×Unit))=>F a.1 b.1.1 b.2.1 b.2.2.1 b.2.2.2.1)
@[reducible] def xu:kD TL:=ol fA f219 n (Ds fA [.tmp 4] [] [0,1,2,3] 4 kJ (kP (lO .i64) kr)) (cl:=nk [(195,rI (l5 l6) lP my (mj n)),(242,mW (lF jH.ky) (lO .i64) (Gv n)),(244,mW (lF jH.ky) my (xM n))]) (sx:=qk [([0,1,0,1,1,1,1,1,1,1,1],He),([0,1,0,1,1,1,1,1,1],Hf),([0,1,0,1,1,1,1,1,1],Hg)]) (cp:=wP [(243,Ga (Ce n))]) (wL:=lV [243])
attribute [go_sem] He Hf Hg
abbrev Hh(v0:List Str)(v1:Int)(v2:Int)(v3:Int)(r1:List (Str×jH))(r2:List (Str×jH))(r3:List (Str×Bool)):jI:=⟨(.ptr 0 0::Bl (mq (mq (mq (qA::qA::qA:: .lI false 1 (mp mA v0):: .int .i64 v1:: .int .i64 v2::mo (qA::qA::[])))))),[.cells [.map 1,.map 2,.map 3,.int .i64 v3],.map (mp (JR (lF jH.ky)) r1),.map (mp (JR (lF jH.ky)) r2),.map (mp CM r3)],4,[]⟩
abbrev Hi:List Kt:=[.blk 2,.cut [1,1,1,1,1,1,1,1,1],.at [1,1,1,1,1,1,1,1,1]]
abbrev Hj:=(List Str)->Int->Int->Int->Tb->Tb->T9->Option TL
abbrev Sd(K:List Kt)(Z:Hj):Prop:= ∀v0 v1 v2 v3 r1 r2 r3,run (xu n) K (Hh v0 v1 v2 v3 r1 r2 r3)=Z v0 v1 v2 v3 r1 r2 r3
abbrev Hl(v0:Str)(v1:List Str)(v2:List Str)(v3:Int)(v4:Int)(v5:Int)(r1:List (Str×jH))(r2:List (Str×jH))(r3:List (Str×Bool))(o4:jH):jI:=⟨(.ptr 0 0::qA::qA:: .ptr 4 0::qA::qA:: .map 2:: .str (sb v0):: .lI false 1 (mp mA v1)::mo (mo (mq (mq (mq (qA::qA::qA:: .lI false 1 (mp mA v2):: .int .i64 v3:: .int .i64 v4::mo (mo (mq (mq (qA::qA::[])))))))))),[.cells [.map 1,.map 2,.map 3,.int .i64 v5],.map (mp (JR (lF jH.ky)) r1),.map (mp (JR (lF jH.ky)) r2),.map (mp CM r3),.cells (jH.cells o4)],4,[]⟩
abbrev Bz:List Kt:=[.blk 0,.cut [1,1,1,1,1,1,1],.at [1,1,1,1,1,1,1]]
abbrev wG:=Str->(List Str)->(List Str)->Int->Int->Int->Tb->Tb->T9->jH->Option TL
abbrev Se(K:List Kt)(Z:wG):Prop:= ∀v0 v1 v2 v3 v4 v5 r1 r2 r3 o4,run (xu n) K (Hl v0 v1 v2 v3 v4 v5 r1 r2 r3 o4)=Z v0 v1 v2 v3 v4 v5 r1 r2 r3 o4
abbrev Ho(v0:Str)(v1:List Str)(v2:List Str)(v3:Int)(v4:Int)(v5:Int)(r1:List (Str×jH))(r2:List (Str×jH))(r3:List (Str×Bool))(o4:jH):jI:=⟨(.ptr 0 0::qA::qA:: .ptr 4 0::qA::qA:: .map 1:: .str (sb v0):: .lI false 1 (mp mA v1)::mo (mo (mq (mq (mq (qA::qA::qA:: .lI false 1 (mp mA v2):: .int .i64 v3:: .int .i64 v4::mo (mo (mq (mq (qA::qA::[])))))))))),[.cells [.map 1,.map 2,.map 3,.int .i64 v5],.map (mp (JR (lF jH.ky)) r1),.map (mp (JR (lF jH.ky)) r2),.map (mp CM r3),.cells (jH.cells o4)],4,[]⟩
abbrev Sf(K:List Kt)(Z:wG):Prop:= ∀v0 v1 v2 v3 v4 v5 r1 r2 r3 o4,run (xu n) K (Ho v0 v1 v2 v3 v4 v5 r1 r2 r3 o4)=Z v0 v1 v2 v3 v4 v5 r1 r2 r3 o4
attribute [go_sem] Hh Hi Hl Bz Ho
def tE:LB (Sd n) [0,1,0,1,1,1,1,1,1,1,1] Hi:=pu
def qX:Nat->Hj:=w8 ((tE n).1)
def Fl{n:Nat}:qX n (m+1)=(tE n).1 (qX n m):=rfl
@[go_sem]def NP(m:Nat):=Ij (tE n) (qX n) m
def tF:LB (Se n) [0,1,0,1,1,1,1,1,1] Bz:=pu
def tG:Nat->wG:=w8 ((tF n).1)
def Fm{n:Nat}:tG n (m+1)=(tF n).1 (tG n m):=rfl
@[go_sem]def NQ(m:Nat):=Ij (tF n) (tG n) m
def tH:LB (Sf n) [0,1,0,1,1,1,1,1,1] Bz:=pu
def tI:Nat->wG:=w8 ((tH n).1)
def Fo{n:Nat}:tI n (m+1)=(tH n).1 (tI n m):=rfl
@[go_sem]def NR(m:Nat):=Ij (tH n) (tI n) m
def Cv:{B:jH->Int->Tb->Tb->T9->Option TL // ∀(a0:jH)(o0:Int)(o1:Tb)(o2:Tb)(o3:T9),run (xu n) [.at []] (rB (lm 0 (kP (lF jH.ky) kr)) kJ ((o0,()),o1,o2,o3,()) (a0,()) 101)=B a0 o0 o1 o2 o3}:=pu
def AF:=fu fun n=>(Cv n).1
def Sg:OKX fA 219 (lm 0 (kP (lF jH.ky) kr)) kJ kJ (kP (lO .i64) kr) (fun n b a=>AF n a.1 b.1.1 b.2.1 b.2.2.1 b.2.2.2.1):=fX fun n b a r h=>okG (((Cv n).2 a.1 b.1.1 b.2.1 b.2.2.1 b.2.2.2.1).trans h) (gd (jL (nA (c2 De n)) (jL (lg (c1 Y2 n)) (jL (lg (c1 CU n)) jQ))) jR (p:=(jX (kw (OI n)) kR))) func219 ntmps219 results219
open Go.Proofs
@[go_sem]def Y4:wX:=⟨[],[],(zT (l5 jH.row)::zA::zA::zK::zK::me (me (me (l7 (zA::[]))))),[],none,none⟩
@[go_sem]def Y5:wX:=⟨[],[],(zT (l5 jH.row)::zA::zA::zK::me (me (me (l7 (zA::zA::[]))))),[],none,none⟩
@[reducible] def UU:kD Bool:=ol fA f12 n (nE fA [.tmp 2] my) (cl:=nk [(30,mW (l5 jH.row) my (Je n))]) (sx:=qk [([0,1,1,0,0,1,0,0,1,0,1],Y4),([0,1,0,1],Y5)])
abbrev Y6(v0:List jH)(v1:Int)(v2:Int):jI:=⟨(.lI false 4 (mp jH.cells v0)::qA::qA:: .int .i64 v1:: .int .i64 v2::mo (mo (mo (mq (qA::[]))))),[],0,[]⟩
abbrev Y7(m2:Nat):List Kt:=[.blk 2,.blk 1,.cut [1,1,0,0,1,0,1],.at [1,1,0,0,1,0,1],.lp m2 [0,1,0,1],.blk 0,.cut [1,1],.at [1,1]]
abbrev Y8:=(List jH)->Int->Int->Option Bool
abbrev agZ(K:List Kt)(Z:Y8):Prop:= ∀v0 v1 v2,run (UU n) K (Y6 v0 v1 v2)=Z v0 v1 v2
abbrev Y9(v0:List jH)(v1:Int):jI:=⟨(.lI false 4 (mp jH.cells v0)::qA::qA:: .int .i64 v1::mo (mo (mo (mq (qA::qA::[]))))),[],0,[]⟩
abbrev QM(K:List Kt)(Z:zx):Prop:= ∀v0 v1,run (UU n) K (Y9 v0 v1)=Z v0 v1
attribute [go_sem] Y6 Y7 Y9
def Gx:LB2 (QM n) [0,1,0,1] [.blk 0,.cut [1,1],.at [1,1]] (agZ n) [0,1,1,0,0,1,0,0,1,0,1] Y7:=mB
def Kp(X2:zx):Nat->Y8:=w8 ((Gx n).1 X2)
def UV{n:Nat}(X2:zx):Kp n X2 (m+1)=(Gx n).1 X2 (Kp n X2 m):=rfl
def abH{m2:Nat}{X2}(h2:QM n (.lq m2 [0,1,0,1]::[.blk 0,.cut [1,1],.at [1,1]]) X2)(m:Nat):=arn (Gx n) h2 (Kp n X2) m
def Gy:LB (QM n) [0,1,0,1] [.blk 0,.cut [1,1],.at [1,1]]:=by
 apply Subtype.mk;intro m X0 ih v0 v1;simp (config:={maxSteps:=100000000}) only[go_sem,fG,fH,fB,fD,fI,fJ,fL,fM,fN,fE,fK,fO,f12,fF,mixed,abH n ih,ih];exact rfl
def C3:Nat->zx:=w8 ((Gy n).1)
def UW{n:Nat}:C3 n (m+1)=(Gy n).1 (C3 n m):=rfl
@[go_sem]def abI(m:Nat):=Ij (Gy n) (C3 n) m
def UX:{B:(List jH)->Option Bool // ∀(a0:(List jH)),run (UU n) [.at []] (xI [(l5 jH.row).enc a0] 58)=B a0}:=mB
def HV:=fu fun n=>(UX n).1
def Kq:zO fA 12 (kP (l5 jH.row) kr) my (fun n a=>HV n a.1):=fC fun n a r h nb=>AQ (((UX n).2 _).trans h) (gd (jL (lg (c1 adp n)) jQ) jR) func12 nb ntmps12 results12
@[go_sem]def yx:=(kP lP (kP (lO .i64) (kP (lO .i64) (kP (l5 jH.row) kr))))
@[go_sem]def Lx(F:Str->Int->Int->(List jH)->Option TR):=tB true [] EC yx jF (lm 0 kr) EC jN (fun(b:Unit)(a:(Str×(Int×(Int×((List jH)×Unit)))))=>F a.1 a.2.1 a.2.2.1 a.2.2.2.1)
@[reducible] def XJ:kD TR:=ol fA f33 n (pd fA [.tmp 8] [.arg 0 []] [] 0 jF (lm 0 kr)) (cl:=nk [(70,mW (l5 jH.row) (l5 l6) (yP n))]) (nB:=pe [] [] 0 EC jN) (cp:=wP [(71,Lw (C2 n))]) (wL:=lV [71])
def AG:{B:Str->Int->Int->(List jH)->Option TR // ∀(a0:Str)(a1:Int)(a2:Int)(a3:(List jH)),run (XJ n) [.at []] (rB yx EC () (a0,a1,a2,a3,()) 21)=B a0 a1 a2 a3}:=pu
def vS:=fu fun n=>(AG n).1
def Wl:OKP fA 33 yx EC true jF (lm 0 kr) EC jN (fun n b a=>vS n a.1 a.2.1 a.2.2.1 a.2.2.2.1):=fP fun n b a r h=>P2 (((AG n).2 a.1 a.2.1 a.2.2.1 a.2.2.2.1).trans h) (gd (jL (lg (c1 V5 n)) jQ) jR (p:=(jX (kw (Wk n)) kR))) func33 ntmps33 results33
@[go_sem]def lX:=(BP (PC (alA 2 kr)) (BP (PC (lm 3 kr)) (BP (ogA true jM.row) (BP (PC (alC jG.ky 6 kr)) EC))))
@[go_sem]def Ee(F:Ti->jG->Option TC):=tB true [.arg 0 [],.arg 1 [],.obj 0 0 [],.obj 1 0 []] lX (lm 0 (lm 1 kr)) lX kr lX jN (fun(b:(Unit×(Unit×(Ti×T6))))(a:Unit)=>F b.2.2.1 b.2.2.2.1.1)
@[reducible] def nK:kD TC:=ol fA f273 n (pd fA [] [] [0,1,2,3] 4 lX kr) (nB:=pe [] [0,1,2,3] 4 lX jN) (co:=LO [(274,EY [.arg 0 []] jF (lm 0 kr) jF (kP (lF jM.ky) kr) jF jN (fun(b:T6)(a:Unit)=>(vg n) b.1.1))]) (yb:=lV [274]) (yd:=lV [])
def NS:tw (nK n) []=true:=jE
def NT:Fz (nK n) [] 1 2 0 4 1 4 2 4/\Fz (nK n) [] 0 5 1 5 2 5 4 5:=⟨⟨jE,jE,jE,jE⟩,jE,jE,jE,jE⟩
def NU:GR (nK n) [] 2 3=true/\GR (nK n) [] 2 4=true/\GR (nK n) [] 2 5=true/\MW (nK n) [] 2=false:=⟨jE,jE,jE,jE⟩
attribute [go_sem] NS NT NU
def xY:{B:Ti->jG->Option TC // ∀(o0:Ti)(o1:jG),run (nK n) [.at []] (rB (lm 0 (lm 1 kr)) lX ((),(),o0,(o1,()),()) () 7)=B o0 o1}:=pu
def AH:=fu fun n=>(xY n).1
def L6:OKP fA 273 (lm 0 (lm 1 kr)) lX true lX kr lX jN (fun n b a=>AH n b.2.2.1 b.2.2.2.1.1):=fP fun n b a r h=>P2 (((xY n).2 b.2.2.1 b.2.2.2.1.1).trans h) (gd jQ jR (c:=(mi (we (Gw n)) rJ))) func273 ntmps273 results273
@[reducible] def Wm:kD TB:=ol fA f268 n (pd fA [.cell 2 80] [] [0] 1 jF (kP (lF jM.ky) kr)) (cl:=nk [(56,zN (pU (mW (yg jG.ky) (lF j8.ky) (k8 n)))),(59,yM [0] (uF (xG jG.ky) tz) (MZ 0 Kd) (uF (xG jG.ky) tz) (Ml lP II) (fun(b:Td) a=>(kE n) b.1)),(122,yM [0] (uF (xG jG.ky) tz) (MZ 0 (asT lP Kd)) (uF (xG jG.ky) tz) (Ml my II) (fun(b:Td) a=>(kZ n) b.1 a.1)),(159,zN (pU (mW (yg jG.ky) my (rM n))))]) (nB:=pe [] [0] 1 jF jN) (cp:=wP [(60,mS (lB n)),(141,vG (pE n)),(274,Bx (vg n))]) (wL:=lV [60,141,274])
def DD:{B:jG->Option TB // ∀(o0:jG),run (Wm n) [.at []] (rB (lm 0 kr) jF ((o0,()),()) () 47)=B o0}:=pu
def BM:=fu fun n=>(DD n).1
def UY:OKP fA 268 (lm 0 kr) jF true jF (kP (lF jM.ky) kr) jF jN (fun n b a=>BM n b.1.1):=fP fun n b a r h=>P2 (((DD n).2 b.1.1).trans h) (gd (jL (nQ (mh (c1 lc n))) (jL (n7 (fun b a r h=>(kY n) b.1 r h)) (jL (n7 (fun b a r h=>(lj n) b.1 a.1 r h)) (jL (nQ (mh (c1 yX n))) jQ)))) jR (p:=(jX (kw (nh n)) (jX (kw (zu n)) (jX (kw (Gw n)) kR))))) func268 ntmps268 results268
@[go_sem]def J6:wX:=⟨[],[],(l7 (zK::zA::zA::zA::zT (l5 jH.row)::zK::zK::l7 (l7 (zA::[])))),[oC [zK,zK,zK,zK],oM (lF jH.ky),oM (lF jH.ky),oK],none,none⟩
@[go_sem]def yy:=(alK (.raw (.pointer none)) ayQ (alK (.bool false) anq kr))
@[go_sem]def Ly(F:(List jH)->Option TI):=tB false [] EC (kP (l5 jH.row) kr) EC yy kJ (lm 0 (alK (.bool true) anq kr)) (fun(b:Unit)(a:((List jH)×Unit))=>F a.1)
@[reducible] def Lz:kD TI:=ol fA f197 n (ac2 fA [.tmp 2,.tmp 3] [] [] 0 EC yy [.arg 0 [],.obj 0 0 [],.obj 0 1 [],.obj 0 2 []] kJ (lm 0 (alK (.bool true) anq kr))) (cl:=nk [(218,JW (BH n)),(219,Jf (AF n))]) (sx:=qk [([0,1,0,1,1],J6)])
@[go_sem]abbrev J7(v0:List jH)(v1:Int)(v2:Int)(v3:Int)(r1:List (Str×jH))(r2:List (Str×jH))(r3:List (Str×Bool)):jI:=⟨(mq (.ptr 0 0::qA::qA::qA:: .lI false 4 (mp jH.cells v0):: .int .i64 v1:: .int .i64 v2::mq (mq (qA::[])))),[.cells [.map 1,.map 2,.map 3,.int .i64 v3],.map (mp (JR (lF jH.ky)) r1),.map (mp (JR (lF jH.ky)) r2),.map (mp CM r3)],0,[]⟩
abbrev J8:=(List jH)->Int->Int->Int->Tb->Tb->T9->Option TI
abbrev Wn(K:List Kt)(Z:J8):Prop:= ∀v0 v1 v2 v3 r1 r2 r3,run (Lz n) K (J7 v0 v1 v2 v3 r1 r2 r3)=Z v0 v1 v2 v3 r1 r2 r3
def vh:LB (Wn n) [0,1,0,1,1] [.blk 0,.cut [1,1,1],.at [1,1,1]]:=mB
def vi:Nat->J8:=w8 ((vh n).1)
def Hp{n:Nat}:vi n (m+1)=(vh n).1 (vi n m):=rfl
@[go_sem]def QN(m:Nat):=Ij (vh n) (vi n) m
def EJ:{B:(List jH)->Option TI // ∀(a0:(List jH)),run (Lz n) [.at []] (rB (kP (l5 jH.row) kr) EC () (a0,()) 20)=B a0}:=mB
def C4:=fu fun n=>(EJ n).1
def Wo:OKP fA 197 (kP (l5 jH.row) kr) EC false EC yy kJ (lm 0 (alK (.bool true) anq kr)) (fun n b a=>C4 n a.1):=fP fun n b a r h=>okS (((EJ n).2 a.1).trans h) (gd (jL (BE (Uf n)) (jL (BE (Sg n)) jQ)) jR) func197 ntmps197 results197
end Go.Abs
end
