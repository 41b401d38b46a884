/- A part of the proof: what the functions compute. -/
import Derived.Test.YtdkeelhebopgkaaGreatDoorDataA
import Derived.Test.YtdkeelhebopgkaaGreatDoorWalkB
import Derived.Test.YtdkeelhebopgkaaGreatDoorWalkA
set_option linter.all false
open Go.Proofs.Tryz renaming prog → fQ
open Go.Abs.AV renaming any → qA
noncomputable section
open Go.Proofs.Tryz
namespace Go.Abs
variable {m:Nat}
variable (n:Nat)
open Go.Proofs
attribute [go_sem] f177 f164 f267 f34 f75 f76 f80 f125 f163 f196 f217 f241 f258 f259 f269 f275 f282 f290 f291 f77 f14 f13 f4 f6 f7 f8
set_option maxRecDepth 100000
set_option maxHeartbeats 4000000
@[go_sem]def rk:wX:=⟨[],[],(zK::zK::zA::zA::zK::l7 (l7 (zA::zA::[]))),[oT jG.ky,oC [zK],oC [zK],oA jM.row],none,none⟩
@[go_sem]def mL:=(lm 0 (alF 273 (vlP 1 (vlP 2 vlN)) kr))
@[go_sem]def kA:=(BP (PC (alC jG.ky 6 kr)) (BP (PC (alA 3 kr)) (BP (PC (lm 0 kr)) (BP (ogA true jM.row) EC))))
@[go_sem]def rF(F:jG->Ti->Option Tu):=tB true [.arg 0 [],.arg 1 [0],.arg 1 [1],.obj 1 0 []] kA mL kA kr kA jN (fun(b:(Td×(Unit×(Unit×(Ti×Unit)))))(a:(Unit×Unit))=>F b.1.1 b.2.2.2.1)
@[reducible] def oI:kD Tu:=ol fQ f177 n (pd fQ [] [] [0,1,2,3] 4 kA kr) (cl:=nk [(122,yM [0] (uF (xG jG.ky) tz) (MZ 0 (asT lP Kd)) (uF (xG jG.ky) tz) (Ml my II) (fun(b:Td) a=>(kZ n) b.1 a.1))]) (sx:=qk [([0,1],rk)]) (nB:=pe [] [0,1,2,3] 4 kA jN) (cp:=wP [(72,kS (kO n)),(273,Ee (AH n))]) (wL:=lV [72,273])
@[go_sem]abbrev ow(v0:Int)(o0:jG)(r3:List jM)(c3:Nat):jI:=⟨(.ptr 0 0:: .func (.func 273) [] [.ptr 1 0,.ptr 2 0]::qA::qA:: .int .i64 v0::mq (mq (qA::qA::[]))),[.cells (jG.cells o0),.cells [.acc 3 c3],.cells [.ptr 0 0],.acc true 2 (mp jM.cells r3)],4,[]⟩
abbrev mM:=Int->jG->Ti->Option Tu
abbrev oz(K:List Kt)(Z:mM):Prop:= ∀v0 o0 r3 c3,c3=r3.length->run (oI n) K (ow v0 o0 r3 c3)=Z v0 o0 r3
def lM:{B:mM->mM // ∀m X0,oz n (.lq m [0,1]::[.blk 0]) X0-> ∀(v0:Int)(o0:jG)(r3:List jM),run (oI n) (.at [0,0,1]:: .lp m [0,1]::[.blk 0]) (ow v0 o0 r3 (r3.length))=B X0 v0 o0 r3}:=pu
def lN:Nat->mM:=w8 ((lM n).1)
def qO{n:Nat}:lN n (m+1)=(lM n).1 (lN n m):=rfl
@[go_sem]def wM(m:Nat):oz n (.lq m [0,1]::[.blk 0]) (lN n m):=
 sE (G:=fun m Z=>oz n (.lq m [0,1]::[.blk 0]) Z) (fun _ _ _ _ _=>lw) (fun m _ ih=>by
  intro v0 o0 r3 c3 ec3;subst ec3;rw[lz];exact(lM n).2 _ _ ih v0 o0 r3) m
def oJ:{B:jG->Ti->Option Tu // ∀(o0:jG)(o1:Ti),run (oI n) [.at []] (rB mL kA ((o0,()),(),(),o1,()) ((),()) 15)=B o0 o1}:=pu
def pm:=fu fun n=>(oJ n).1
def xZ:OKP fQ 177 mL kA true kA kr kA jN (fun n b a=>pm n b.1.1 b.2.2.2.1):=fP fun n b a r h=>P2 (((oJ n).2 b.1.1 b.2.2.2.1).trans h) (gd (jL (n7 (fun b a r h=>(lj n) b.1 a.1 r h)) jQ) jR (p:=(jX (kw (lE n)) (jX (kw (L6 n)) kR)))) func177 ntmps177 results177
@[reducible] def O9:kD TH:=ol fQ f164 n (at7 (KQ [(198,GU [.arg 0 [],.arg 1 [],.arg 2 [],.arg 3 [],.obj 0 0 [],.obj 4 0 [],.obj 5 0 [],.obj 5 1 [],.obj 5 2 []] jW (lm 0 (lm 1 (lm 2 (lm 3 kr)))) jW kr (fun(b:Tj)(a:Unit)=>(vb n) b.2.1.1 b.2.2.1.1 b.2.2.2.1.1 b.2.2.2.2.1.1 b.2.2.2.2.1.2.1 b.2.2.2.2.2.1.1 b.2.2.2.2.2.2.1 b.2.2.2.2.2.2.2.1 b.2.2.2.2.2.2.2.2.1))]) (KQ [(198,GU [.arg 0 [],.arg 1 [],.arg 2 [],.arg 3 [],.obj 0 0 [],.obj 4 0 [],.obj 5 0 [],.obj 5 1 [],.obj 5 2 []] jW qz jW kr (fun(b:Tj)(a:(Unit×Unit))=>(s9 n) a.1 b.2.1.1 b.2.2.1.1 b.2.2.2.1.1 b.2.2.2.2.1.1 b.2.2.2.2.1.2.1 b.2.2.2.2.2.1.1 b.2.2.2.2.2.2.1 b.2.2.2.2.2.2.2.1 b.2.2.2.2.2.2.2.2.1))]) fQ [.cell 4 29,.cell 5 3,.cell 6 30] (Yk (lF Syntax.ky) (lO .i64) (lO .i64))) (nB:=anm (KQ [(198,GU [.arg 0 [],.arg 1 [],.arg 2 [],.arg 3 [],.obj 0 0 [],.obj 4 0 [],.obj 5 0 [],.obj 5 1 [],.obj 5 2 []] jW (lm 0 (lm 1 (lm 2 (lm 3 kr)))) jW kr (fun(b:Tj)(a:Unit)=>(vb n) b.2.1.1 b.2.2.1.1 b.2.2.2.1.1 b.2.2.2.2.1.1 b.2.2.2.2.1.2.1 b.2.2.2.2.2.1.1 b.2.2.2.2.2.2.1 b.2.2.2.2.2.2.2.1 b.2.2.2.2.2.2.2.2.1))]) (KQ [(198,GU [.arg 0 [],.arg 1 [],.arg 2 [],.arg 3 [],.obj 0 0 [],.obj 4 0 [],.obj 5 0 [],.obj 5 1 [],.obj 5 2 []] jW qz jW kr (fun(b:Tj)(a:(Unit×Unit))=>(s9 n) a.1 b.2.1.1 b.2.2.1.1 b.2.2.2.1.1 b.2.2.2.2.1.1 b.2.2.2.2.1.2.1 b.2.2.2.2.2.1.1 b.2.2.2.2.2.2.1 b.2.2.2.2.2.2.2.1 b.2.2.2.2.2.2.2.2.1))]) fQ [.cell 4 29,.cell 5 3,.cell 6 30] (Yk (lF Syntax.ky) (lO .i64) (lO .i64))) (cp:=wP [(197,Ly (C4 n)),(199,vD (lZ n))]) (wL:=lV [197,199])
def HW:{B:(List jH)->(List Syntax)->Option TH // ∀(a0:(List jH))(a1:(List Syntax)),run (O9 n) [.at []] (xI [(l5 jH.row).enc a0,(l5 Syntax.row).enc a1] 42)=B a0 a1}:=pu
def sZ:=fu fun n=>(HW n).1
def Za: ∀(n:Nat)(a0:(List jH))(a1:(List Syntax))(r:TH),sZ n a0 a1=some r->GP fQ 164 [(l5 jH.row).enc a0,(l5 Syntax.row).enc a1] (fun v=>v=(Yk (lF Syntax.ky) (lO .i64) (lO .i64)).enc r)
 |0,_,_,_,h=>by cases h
 |n+1,a0,a1,r,h=>by
  exact aje (M:=O9 n) (t:=(Yk (lF Syntax.ky) (lO .i64) (lO .i64))) (cr:=(KQ [(198,GU [.arg 0 [],.arg 1 [],.arg 2 [],.arg 3 [],.obj 0 0 [],.obj 4 0 [],.obj 5 0 [],.obj 5 1 [],.obj 5 2 []] jW (lm 0 (lm 1 (lm 2 (lm 3 kr)))) jW kr (fun(b:Tj)(a:Unit)=>(vb n) b.2.1.1 b.2.2.1.1 b.2.2.2.1.1 b.2.2.2.2.1.1 b.2.2.2.2.1.2.1 b.2.2.2.2.2.1.1 b.2.2.2.2.2.2.1 b.2.2.2.2.2.2.2.1 b.2.2.2.2.2.2.2.2.1))])) (cp:=(KQ [(198,GU [.arg 0 [],.arg 1 [],.arg 2 [],.arg 3 [],.obj 0 0 [],.obj 4 0 [],.obj 5 0 [],.obj 5 1 [],.obj 5 2 []] jW qz jW kr (fun(b:Tj)(a:(Unit×Unit))=>(s9 n) a.1 b.2.1.1 b.2.2.1.1 b.2.2.2.1.1 b.2.2.2.2.1.1 b.2.2.2.2.1.2.1 b.2.2.2.2.2.1.1 b.2.2.2.2.2.2.1 b.2.2.2.2.2.2.2.1 b.2.2.2.2.2.2.2.2.1))])) ⟨jQ,jR,qg _,qy _,uh,uj,(jX (kw (Wo n)) (jX (kw (fun b a r h=>(OX n) a.1 b.1.1 b.1.2.1 b.2.1.1 b.2.2.1 b.2.2.2.1 b.2.2.2.2.1 r h)) kR)),u1⟩ (FM (Ol ZH (fun _ _ _ _=>rfl) (jE) (fun b a r h=>(Qa n) b.2.1.1 b.2.2.1.1 b.2.2.2.1.1 b.2.2.2.2.1.1 b.2.2.2.2.1.2.1 b.2.2.2.2.2.1.1 b.2.2.2.2.2.2.1 b.2.2.2.2.2.2.2.1 b.2.2.2.2.2.2.2.2.1 r h)) IK) (FM (Ol ZI (fun _ _ _ _=>rfl) (jE) (fun b a r h=>(Qb n) a.1 b.2.1.1 b.2.2.1.1 b.2.2.2.1.1 b.2.2.2.2.1.1 b.2.2.2.2.1.2.1 b.2.2.2.2.2.1.1 b.2.2.2.2.2.2.1 b.2.2.2.2.2.2.2.1 b.2.2.2.2.2.2.2.2.1 r h)) IK) func164 rfl rfl ⟨(l5 jH.row).nb 0 _,(l5 Syntax.row).nb 0 _,trivial⟩ ntmps164 results164 rfl rfl (((HW n).2 a0 a1).trans h)
open Go.Proofs
@[go_sem]def Gz(F:jG->Option TN):=tB true [.arg 0 []] jF (lm 0 kr) jF (kP (l5 jM.row) kr) jF jN (fun(b:T6)(a:Unit)=>F b.1.1)
@[reducible] def QO:kD TN:=ol fQ f267 n (pd fQ [.tmp 2] [] [0] 1 jF (kP (l5 jM.row) kr)) (cl:=nk [(122,yM [0] (uF (xG jG.ky) tz) (MZ 0 (asT lP Kd)) (uF (xG jG.ky) tz) (Ml my II) (fun(b:Td) a=>(kZ n) b.1 a.1))]) (cut:=aft [] [([1,1,1],2,0,2,true)]) (nB:=pe [] [0] 1 jF jN) (cp:=wP [(60,mS (lB n)),(177,rF (pm n))]) (wL:=lV [60,177])
def AI:{B:jG->Option TN // ∀(o0:jG),run (QO n) [.at []] (rB (lm 0 kr) jF ((o0,()),()) () 19)=B o0}:=pu
def xw:=fu fun n=>(AI n).1
def Pa:OKP fQ 267 (lm 0 kr) jF true jF (kP (l5 jM.row) kr) jF jN (fun n b a=>xw n b.1.1):=fP fun n b a r h=>P2 (((AI n).2 b.1.1).trans h) (gdM (jL (n7 (fun b a r h=>(lj n) b.1 a.1 r h)) jQ) jR (p:=(jX (kw (nh n)) (jX (kw (xZ n)) kR)))) func267 ntmps267 results267
open Go.Proofs
@[go_sem]def lC(F:jG->Option T8):=tB true [.arg 0 []] jF (lm 0 kr) jF (kP (lF Syntax.ky) kr) jF jN (fun(b:T6)(a:Unit)=>F b.1.1)
@[go_sem]def yz(F:Int->jG->Option T8):=tB true [.arg 0 []] jF (lm 0 (kP (lO .i64) kr)) jF (kP (lF Syntax.ky) kr) jF jN (fun(b:T6)(a:(Int×Unit))=>F a.1 b.1.1)
@[go_sem]def GA(F:Str->Str->jG->Option Tv):=tB true [.arg 0 []] jF (lm 0 (kP lP (kP lP kr))) jF (kP (l5 jO.row) kr) jF jN (fun(b:T6)(a:(Str×(Str×Unit)))=>F a.1 a.2.1 b.1.1)
@[go_sem]def GB(F:Syntax->jG->Option T8):=tB true [.arg 0 []] jF (lm 0 (kP (lF Syntax.ky) kr)) jF (kP (lF Syntax.ky) kr) jF jN (fun(b:T6)(a:(Syntax×Unit))=>F a.1 b.1.1)
@[go_sem]def ko:=(BP (PC (alC jG.ky 6 kr)) (BP (PC (alC Syntax.ky 8 kr)) EC))
@[go_sem]def uv(F:jG->Syntax->Option Ta):=tB true [.arg 0 [],.arg 1 []] ko (lm 0 (lm 1 kr)) ko kr ko jN (fun(b:(Td×((Syntax×Unit)×Unit)))(a:Unit)=>F b.1.1 b.2.1.1)
@[go_sem]def zy(F:jG->Option Tt):=tB true [.arg 0 []] jF (lm 0 kr) jF (kP (l5 Syntax.row) kr) jF jN (fun(b:T6)(a:Unit)=>F b.1.1)
@[go_sem]def pS:=(lm 0 (kP (lF Syntax.ky) (kP (l5 jO.row) (kP lP kr))))
@[go_sem]def Pb(F:Syntax->Tm->Str->jG->Option T8):=tB true [.arg 0 []] jF pS jF (kP (lF Syntax.ky) kr) jF jN (fun(b:T6)(a:(Syntax×(Tm×(Str×Unit))))=>F a.1 a.2.1 a.2.2.1 b.1.1)
structure jK where
 kg:jG->Option T8
 p4:Int->jG->Option T8
 mw:Str->Str->jG->Option Tv
 p5:Int->jG->Option T8
 oS:Int->jG->Option T8
 oZ:jG->Option T8
 nq:jG->Option T8
 pg:jG->Option T8
 nO:jG->Option T8
 nY:jG->Option T8
 nL:Syntax->jG->Option T8
 pL:jG->Syntax->Option Ta
 ni:jG->Option Tt
 mm:jG->Option T8
 kK:jG->Option T8
 nZ:jG->Syntax->Option Ta
 oU:jG->Syntax->Option Ta
 nj:Syntax->Tm->Str->jG->Option T8
open Go.Proofs
@[reducible] def kL(X:jK)(n:Nat):kD T8:=ol fQ f34 n (ajp (KQ [(73,GU [.arg 0 [],.obj 0 0 []] kH (lm 0 kr) kH kr (fun(b:(Unit×T6))(a:Unit)=>(mD n) b.2.1.1))]) (pd fQ [.cell 2 29] [] [0] 1 jF (kP (lF Syntax.ky) kr)) (pe [] [0] 1 jF jN)) (cl:=nk [(58,zN (pU (mW (yg jG.ky) (lO .i64) (nN n)))),(59,yM [0] (uF (xG jG.ky) tz) (MZ 0 Kd) (uF (xG jG.ky) tz) (Ml lP II) (fun(b:Td) a=>(kE n) b.1)),(74,zN (pU (S7 (yg jG.ky) (lO .i64) lP my (rL n)))),(79,zN (pU (rI (yg jG.ky) lP my (lY n))))]) (nB:=ajq (KQ [(73,GU [.arg 0 [],.obj 0 0 []] kH (lm 0 kr) kH kr (fun(b:(Unit×T6))(a:Unit)=>(mD n) b.2.1.1))]) (pd fQ [.cell 2 29] [] [0] 1 jF (kP (lF Syntax.ky) kr)) (pe [] [0] 1 jF jN)) (co:=LO [(72,EY [.arg 0 []] jF (lm 0 (kP (lO .i64) kr)) jF kr jF jN (fun(b:T6)(a:(Int×Unit))=>(kO n) a.1 b.1.1)),(77,EY [.arg 0 []] jF pS jF (kP (lF Syntax.ky) kr) jF jN (fun(b:T6)(a:(Syntax×(Tm×(Str×Unit))))=>X.nj a.1 a.2.1 a.2.2.1 b.1.1)),(78,EY [.arg 0 []] jF (lm 0 (kP lP (kP lP kr))) jF (kP (l5 jO.row) kr) jF jN (fun(b:T6)(a:(Str×(Str×Unit)))=>X.mw a.1 a.2.1 b.1.1))]) (cp:=wP [(75,yz X.p4),(76,yz X.p5),(80,yz X.oS)]) (wL:=lV [75,76,80]) (yb:=lV [72,77,78]) (yd:=lV [])
def UZ(X:jK)(n:Nat):aum (kL X n) [0,0,1,1,1,1,1,1,1,0,0,1,1,1,1,1] [0,0,1,1,1,1,1,1,1,1,1,0,0,1,1,1,1,1] [0,1] [0,1,0,1,1,1,1,1,0,0,1,1,1,1,1]:=⟨jE,jE,jE,jE⟩
def U0(X:jK)(n:Nat):Fz (kL X n) [0,0,1,1,1,1,1,1,1,0,0,1,1,1,1,1] 3 4 0 5 3 5 4 5/\Fz (kL X n) [0,0,1,1,1,1,1,1,1,0,0,1,1,1,1,1] 0 6 3 6 4 6 5 6/\Fz (kL X n) [0,0,1,1,1,1,1,1,1,1,1,0,0,1,1,1,1,1] 3 4 0 5 3 5 4 5/\Fz (kL X n) [0,0,1,1,1,1,1,1,1,1,1,0,0,1,1,1,1,1] 0 6 3 6 4 6 5 6/\aoS (kL X n) [0,1] 0 7 3 7 6 7/\Fz (kL X n) [0,1,0,1,1,1,1,1,0,0,1,1,1,1,1] 3 4 0 5 3 5 4 5/\Fz (kL X n) [0,1,0,1,1,1,1,1,0,0,1,1,1,1,1] 0 6 3 6 4 6 5 6:=⟨⟨jE,jE,jE,jE⟩,⟨jE,jE,jE,jE⟩,⟨jE,jE,jE,jE⟩,⟨jE,jE,jE,jE⟩,⟨jE,jE,jE⟩,⟨jE,jE,jE,jE⟩,jE,jE,jE,jE⟩
def U1(X:jK)(n:Nat):GR (kL X n) [0,0,1,1,1,1,1,1,1,0,0,1,1,1,1,1] 4 5=true/\GR (kL X n) [0,0,1,1,1,1,1,1,1,0,0,1,1,1,1,1] 4 6=true/\GR (kL X n) [0,0,1,1,1,1,1,1,1,1,1,0,0,1,1,1,1,1] 4 5=true/\GR (kL X n) [0,0,1,1,1,1,1,1,1,1,1,0,0,1,1,1,1,1] 4 6=true/\GR (kL X n) [0,1,0,1,1,1,1,1,0,0,1,1,1,1,1] 4 5=true/\GR (kL X n) [0,1,0,1,1,1,1,1,0,0,1,1,1,1,1] 4 6=true/\MW (kL X n) [0,0,1,1,1,1,1,1,1,0,0,1,1,1,1,1] 4=false/\MW (kL X n) [0,0,1,1,1,1,1,1,1,0,0,1,1,1,1,1] 5=true/\MW (kL X n) [0,0,1,1,1,1,1,1,1,1,1,0,0,1,1,1,1,1] 4=false/\MW (kL X n) [0,0,1,1,1,1,1,1,1,1,1,0,0,1,1,1,1,1] 5=true/\MW (kL X n) [0,1] 7=true/\MW (kL X n) [0,1,0,1,1,1,1,1,0,0,1,1,1,1,1] 4=false/\MW (kL X n) [0,1,0,1,1,1,1,1,0,0,1,1,1,1,1] 5=true:=⟨jE,jE,jE,jE,jE,jE,jE,jE,jE,jE,jE,jE,jE⟩
attribute [go_sem] UZ U0 U1
def uw(X:jK)(n:Nat):{B:jG->Option T8 // ∀(o0:jG),run (kL X n) [.at []] (rB (lm 0 kr) jF ((o0,()),()) () 80)=B o0}:=pu
open Go.Proofs
@[go_sem]def Jg:wX:=⟨[(5,9,true)],[],(zK::zK::zA::zA::zK::zK::zK::me (me (me (zA::zA::[])))),[oT jG.ky,oK,oA jO.row],none,none⟩
@[reducible] def DE(X:jK)(n:Nat):kD T8:=ol fQ f75 n (pd fQ [.cell 4 29] [] [0] 1 jF (kP (lF Syntax.ky) kr)) (cl:=nk [(59,yM [0] (uF (xG jG.ky) tz) (MZ 0 Kd) (uF (xG jG.ky) tz) (Ml lP II) (fun(b:Td) a=>(kE n) b.1)),(79,zN (pU (rI (yg jG.ky) lP my (lY n)))),(120,yM [0] (uF (xG jG.ky) tz) (MZ 0 Kd) (uF (xG jG.ky) tz) (Ml (lF Syntax.ky) II) (fun(b:Td) a=>(tR n) b.1)),(121,S7 (lF Syntax.ky) (l5 jO.row) (lF Syntax.ky) (lF Syntax.ky) (zX n))]) (sx:=qk [([0,1,0,1,1,1],Jg)]) (nB:=pe [] [0] 1 jF jN) (cp:=wP [(34,lC X.kg),(60,mS (lB n)),(72,kS (kO n)),(78,GA X.mw),(119,mg (nF n))]) (wL:=lV [34,60,72,78,119])
@[go_sem]abbrev Cw(v0:Int)(v1:Int)(o0:jG)(r2:List jO)(c2:Nat):jI:=⟨(.ptr 0 0:: .int .i64 v0::qA::qA:: .ptr 1 0:: .acc 2 c2:: .int .i64 v1::mo (mo (mo (qA::qA::[])))),[.cells (jG.cells o0),.cells [.int .i64 0,.str (sb []),.int .i64 0,.lI true 0 [],.lI true 0 [],.lI true 0 [],.int .i64 0,.int .i64 0],.acc true 9 (mp jO.cells r2)],1,[]⟩
abbrev xy:=Int->Int->jG->Tm->Option T8
abbrev Cy(X:jK)(n:Nat)(K:List Kt)(Z:xy):Prop:= ∀v0 v1 o0 r2 c2,c2=r2.length->run (DE X n) K (Cw v0 v1 o0 r2 c2)=Z v0 v1 o0 r2
def ux(X:jK)(n:Nat):{B:xy->xy // ∀m X0,Cy X n (.lq m [0,1,0,1,1,1]::[.blk 0,.cut [1,1,1,1],.at [1,1,1,1]]) X0-> ∀(v0:Int)(v1:Int)(o0:jG)(r2:List jO),run (DE X n) (.at [0,0,1,0,1,1,1]:: .lp m [0,1,0,1,1,1]::[.blk 0,.cut [1,1,1,1],.at [1,1,1,1]]) (Cw v0 v1 o0 r2 (r2.length))=B X0 v0 v1 o0 r2}:=pu
def qq(X:jK)(n:Nat):Nat->xy:=w8 ((ux X n).1)
def GC(X:jK){n:Nat}:qq X n (m+1)=(ux X n).1 (qq X n m):=rfl
@[go_sem]def Pc(X:jK)(n:Nat)(m:Nat):Cy X n (.lq m [0,1,0,1,1,1]::[.blk 0,.cut [1,1,1,1],.at [1,1,1,1]]) (qq X n m):=
 sE (G:=fun m Z=>Cy X n (.lq m [0,1,0,1,1,1]::[.blk 0,.cut [1,1,1,1],.at [1,1,1,1]]) Z) (fun _ _ _ _ _ _=>lw) (fun m _ ih=>by
  intro v0 v1 o0 r2 c2 ec2;subst ec2;rw[lz];exact(ux X n).2 _ _ ih v0 v1 o0 r2) m
def yA(X:jK)(n:Nat):{B:Int->jG->Option T8 // ∀(a0:Int)(o0:jG),run (DE X n) [.at []] (rB (lm 0 (kP (lO .i64) kr)) jF ((o0,()),()) (a0,()) 57)=B a0 o0}:=pu
open Go.Proofs
@[go_sem]def Fp:wX:=⟨[],[],(zK::zK::zK::l7 (zK::me (me (l7 (l7 (l7 (zA::zA::[]))))))),[oT jG.ky,oA l6],none,none⟩
@[go_sem]def Ef:wX:=⟨[],[],(zK::zK::zK::l7 (zL l6::me (me (l7 (l7 (l7 (zA::zA::[]))))))),[oT jG.ky],(some 7),none⟩
@[reducible] def s4(X:jK)(n:Nat):kD Tv:=ol fQ f78 n (pd fQ [.tmp 6] [] [0] 1 jF (kP (l5 jO.row) kr)) (cl:=nk [(59,yM [0] (uF (xG jG.ky) tz) (MZ 0 Kd) (uF (xG jG.ky) tz) (Ml lP II) (fun(b:Td) a=>(kE n) b.1)),(123,zN (pU (mW (yg jG.ky) my (pR n)))),(124,rI (l5 l6) (lF Syntax.ky) (l5 jO.row) (CY n))]) (sx:=qk [([0,0,1,1,1],Ef),([0,0,1,1,1],Fp)]) (nB:=pe [] [0] 1 jF jN) (cp:=wP [(34,lC X.kg),(60,mS (lB n)),(72,kS (kO n)),(119,mg (nF n))]) (wL:=lV [34,60,72,119])
@[go_sem]abbrev zz(v0:Str)(v1:Str)(o0:jG)(r1:List Str)(c1:Nat):jI:=⟨(.ptr 0 0:: .str (sb v0):: .str (sb v1)::mq (.acc 1 c1::mo (mo (mq (mq (mq (qA::qA::[]))))))),[.cells (jG.cells o0),.acc true 1 (mp mA r1)],1,[]⟩
abbrev uV:=Str->Str->jG->(List Str)->Option Tv
abbrev zB(X:jK)(n:Nat)(K:List Kt)(Z:uV):Prop:= ∀v0 v1 o0 r1 c1,c1=r1.length->run (s4 X n) K (zz v0 v1 o0 r1 c1)=Z v0 v1 o0 r1
def rW(X:jK)(n:Nat):{B:uV->uV // ∀m X0,zB X n (.lq m [0,0,1,1,1]::[.blk 0,.cut [1,1,1,1],.at [1,1,1,1]]) X0-> ∀(v0:Str)(v1:Str)(o0:jG)(r1:List Str),run (s4 X n) (.at [0,0,0,1,1,1]:: .lp m [0,0,1,1,1]::[.blk 0,.cut [1,1,1,1],.at [1,1,1,1]]) (zz v0 v1 o0 r1 (r1.length))=B X0 v0 v1 o0 r1}:=by
 apply Subtype.mk;intro m X0 ih v0 v1 o0 r1;simp (config:={maxSteps:=100000000}) only[go_sem,Nat.reduceAdd,Nat.reduceSub,Nat.reduceLeDiff,Nat.reduceEqDiff,Nat.reduceBEq,Nat.reduceMul,Nat.reduceLT,Int.reduceLE,Int.reduceLT,Int.reduceToNat,Int.reduceBEq,Int.reduceEq,f78,Option.getD_some,mixed,ih];exact rfl
def uW(X:jK)(n:Nat):Nat->uV:=w8 ((rW X n).1)
def Dk(X:jK){n:Nat}:uW X n (m+1)=(rW X n).1 (uW X n m):=rfl
def Cz(X:jK)(n:Nat)(m:Nat):zB X n (.lq m [0,0,1,1,1]::[.blk 0,.cut [1,1,1,1],.at [1,1,1,1]]) (uW X n m):=
 sE (G:=fun m Z=>zB X n (.lq m [0,0,1,1,1]::[.blk 0,.cut [1,1,1,1],.at [1,1,1,1]]) Z) (fun _ _ _ _ _ _=>lw) (fun m _ ih=>by
  intro v0 v1 o0 r1 c1 ec1;subst ec1;rw[lz];exact(rW X n).2 _ _ ih v0 v1 o0 r1) m
def ue(X:jK)(n:Nat):{B:Nat->Str->Str->(List Str)->jG->Option Tv // ∀(m:Nat)(v0:Str)(v1:Str)(v2:List Str)(o0:jG),run (s4 X n) [.at [0,0,0,1,1,1],.lp m [0,0,1,1,1],.blk 0,.cut [1,1,1,1],.at [1,1,1,1]] ⟨[.ptr 0 0,.str (sb v0),.str (sb v1),qA,qA,qA,qA,.lI true 1 (mp mA v2),qA,qA,qA,qA,qA,qA,qA,qA,qA,qA,qA,qA,qA,qA,qA,qA,qA,qA,qA,qA,qA,qA,qA,qA,qA,qA,qA,qA,qA,qA,qA,qA,qA,qA,qA,qA,qA,qA,qA,qA,qA,qA,qA,qA,qA,qA],[.cells (jG.cells o0)],1,[]⟩=B m v0 v1 v2 o0}:=by
 apply Subtype.mk;intro m v0 v1 v2 o0;simp (config:={maxSteps:=100000000}) only[go_sem,Nat.reduceAdd,Nat.reduceSub,Nat.reduceLeDiff,Nat.reduceEqDiff,Nat.reduceBEq,Nat.reduceMul,Nat.reduceLT,Int.reduceLE,Int.reduceLT,Int.reduceToNat,Int.reduceBEq,Int.reduceEq,f78,Option.getD_some,mixed,Cz X n];exact rfl
def rX(X:jK)(n:Nat):Nat->Str->Str->(List Str)->jG->Option Tv
 |0,_,_,_,_=>none
 |m+1,v0,v1,v2,o0=>(ue X n).1 m v0 v1 v2 o0
def LA(X:jK)(n:Nat): ∀(m:Nat),(∀(v0:Str)(v1:Str)(v2:List Str)(o0:jG),run (s4 X n) [.lq m [0,0,1,1,1],.blk 0,.cut [1,1,1,1],.at [1,1,1,1]] ⟨[.ptr 0 0,.str (sb v0),.str (sb v1),qA,qA,qA,qA,.lI true 1 (mp mA v2),qA,qA,qA,qA,qA,qA,qA,qA,qA,qA,qA,qA,qA,qA,qA,qA,qA,qA,qA,qA,qA,qA,qA,qA,qA,qA,qA,qA,qA,qA,qA,qA,qA,qA,qA,qA,qA,qA,qA,qA,qA,qA,qA,qA,qA,qA],[.cells (jG.cells o0)],1,[]⟩=rX X n m v0 v1 v2 o0)
 |0=>by intros;exact lw
 |m+1=>by
  intro v0 v1 v2 o0;rw[lz];exact(ue X n).2 m v0 v1 v2 o0
def vK(X:jK)(n:Nat):{B:Str->Str->jG->Option Tv // ∀(a0:Str)(a1:Str)(o0:jG),run (s4 X n) [.at []] (rB (lm 0 (kP lP (kP lP kr))) jF ((o0,()),()) (a0,a1,()) 54)=B a0 a1 o0}:=by
 apply Subtype.mk;intro a0 a1 o0;simp (config:={maxSteps:=100000000}) only[go_sem,Nat.reduceAdd,Nat.reduceSub,Nat.reduceLeDiff,Nat.reduceEqDiff,Nat.reduceBEq,Nat.reduceMul,Nat.reduceLT,Int.reduceLE,Int.reduceLT,Int.reduceToNat,Int.reduceBEq,Int.reduceEq,f78,Option.getD_some,mixed,Cz X n,LA X n];exact rfl
open Go.Proofs
@[reducible] def yB(X:jK)(n:Nat):kD T8:=ol fQ f76 n (pd fQ [.cell 4 29] [] [0] 1 jF (kP (lF Syntax.ky) kr)) (cl:=nk [(59,yM [0] (uF (xG jG.ky) tz) (MZ 0 Kd) (uF (xG jG.ky) tz) (Ml lP II) (fun(b:Td) a=>(kE n) b.1)),(120,yM [0] (uF (xG jG.ky) tz) (MZ 0 Kd) (uF (xG jG.ky) tz) (Ml (lF Syntax.ky) II) (fun(b:Td) a=>(tR n) b.1)),(122,yM [0] (uF (xG jG.ky) tz) (MZ 0 (asT lP Kd)) (uF (xG jG.ky) tz) (Ml my II) (fun(b:Td) a=>(kZ n) b.1 a.1))]) (nB:=pe [] [0] 1 jF jN) (cp:=wP [(34,lC X.kg),(60,mS (lB n)),(119,mg (nF n))]) (wL:=lV [34,60,119]) (yb:=lV []) (yd:=lV [])
@[go_sem]def Wp(X:jK)(n:Nat):tw (yB X n) [0,1,1,1,1,1,1,1,1,1]=true:=jE
@[go_sem]def Wq(X:jK)(n:Nat):Fz (yB X n) [0,1,1,1,1,1,1,1,1,1] 0 7 1 7 2 7 0 9/\Fz (yB X n) [0,1,1,1,1,1,1,1,1,1] 1 9 2 9 5 9 7 9:=⟨⟨jE,jE,jE,jE⟩,jE,jE,jE,jE⟩
def yC(X:jK)(n:Nat):{B:Int->jG->Option T8 // ∀(a0:Int)(o0:jG),run (yB X n) [.at []] (rB (lm 0 (kP (lO .i64) kr)) jF ((o0,()),()) (a0,()) 48)=B a0 o0}:=pu
open Go.Proofs
@[reducible] def qY(X:jK)(n:Nat):kD T8:=ol fQ f80 n (pd fQ [.cell 4 29] [] [0] 1 jF (kP (lF Syntax.ky) kr)) (cl:=nk [(122,yM [0] (uF (xG jG.ky) tz) (MZ 0 (asT lP Kd)) (uF (xG jG.ky) tz) (Ml my II) (fun(b:Td) a=>(kZ n) b.1 a.1)),(124,rI (l5 l6) (lF Syntax.ky) (l5 jO.row) (CY n)),(126,yM [0] (uF (xG jG.ky) tz) (MZ 0 (asT (lO .i64) Kd)) (uF (xG jG.ky) tz) (Ml (l5 l6) II) (fun(b:Td) a=>(wA n) b.1 a.1))]) (cd:=KO [(121,pU (S7 (lF Syntax.ky) (l5 jO.row) (lF Syntax.ky) (lF Syntax.ky) (zX n)))]) (nB:=pe [] [0] 1 jF jN) (co:=LO [(34,EY [.arg 0 []] jF (lm 0 kr) jF (kP (lF Syntax.ky) kr) jF jN (fun(b:T6)(a:Unit)=>X.kg b.1.1))]) (cp:=wP [(125,lC X.oZ)]) (wL:=lV [125]) (yb:=lV [34]) (yd:=lV [])
def Sh(X:jK)(n:Nat):tw (qY X n) [0,1,1,1,1,1,1]=true:=jE
def Si(X:jK)(n:Nat):aoR (qY X n) [0,1,1,1,1,1,1] 1 7 5 7:=⟨jE,jE⟩
def Sj(X:jK)(n:Nat):GR (qY X n) [0,1,1,1,1,1,1] 5 6=true/\GR (qY X n) [0,1,1,1,1,1,1] 5 7=true/\MW (qY X n) [0,1,1,1,1,1,1] 5=false:=⟨jE,jE,jE⟩
attribute [go_sem] Sh Si Sj
def wH(X:jK)(n:Nat):{B:Int->jG->Option T8 // ∀(a0:Int)(o0:jG),run (qY X n) [.at []] (rB (lm 0 (kP (lO .i64) kr)) jF ((o0,()),()) (a0,()) 55)=B a0 o0}:=pu
open Go.Proofs
@[go_sem]def J9:wX:=⟨[(3,8,true)],[],(zK::zA::zK::zK::Bm (l7 (l7 (l7 [])))),[oT jG.ky,oK,oA Syntax.row],none,none⟩
@[reducible] def EK(X:jK)(n:Nat):kD T8:=ol fQ f125 n (pd fQ [.cell 2 29] [] [0] 1 jF (kP (lF Syntax.ky) kr)) (cl:=nk [(161,zN (pU (mW (yg jG.ky) my (sR n)))),(162,zN (pU (mW (yg jG.ky) my (ul n)))),(164,rI (l5 jH.row) (l5 Syntax.row) (Yk (lF Syntax.ky) (lO .i64) (lO .i64)) (sZ n))]) (sx:=qk [([0,0,1,1],J9)]) (nB:=pe [] [0] 1 jF jN) (cp:=wP [(57,pI (lA n)),(72,kS (kO n)),(103,kS (lK n)),(163,lC X.nq)]) (wL:=lV [57,72,103,163])
@[go_sem]abbrev DF(o0:jG)(r2:List Syntax)(c2:Nat):jI:=⟨(.ptr 0 0::qA:: .ptr 1 0:: .acc 2 c2::Bl (mq (mq (mq [])))),[.cells (jG.cells o0),.cells [.int .i64 0,.str (sb []),.int .i64 0,.lI true 0 [],.lI true 0 [],.lI true 0 [],.int .i64 0,.int .i64 0],.acc true 8 (mp Syntax.cells r2)],1,[]⟩
abbrev yD:=jG->(List Syntax)->Option T8
abbrev DG(X:jK)(n:Nat)(K:List Kt)(Z:yD):Prop:= ∀o0 r2 c2,c2=r2.length->run (EK X n) K (DF o0 r2 c2)=Z o0 r2
def vk(X:jK)(n:Nat):{B:yD->yD // ∀m X0,DG X n (.lq m [0,0,1,1]::[.blk 0,.cut [1,1,1],.at [1,1,1]]) X0-> ∀(o0:jG)(r2:List Syntax),run (EK X n) (.at [0,0,0,1,1]:: .lp m [0,0,1,1]::[.blk 0,.cut [1,1,1],.at [1,1,1]]) (DF o0 r2 (r2.length))=B X0 o0 r2}:=pu
def tf(X:jK)(n:Nat):Nat->yD:=w8 ((vk X n).1)
def Hq(X:jK){n:Nat}:tf X n (m+1)=(vk X n).1 (tf X n m):=rfl
@[go_sem]def QP(X:jK)(n:Nat)(m:Nat):DG X n (.lq m [0,0,1,1]::[.blk 0,.cut [1,1,1],.at [1,1,1]]) (tf X n m):=
 sE (G:=fun m Z=>DG X n (.lq m [0,0,1,1]::[.blk 0,.cut [1,1,1],.at [1,1,1]]) Z) (fun _ _ _ _=>lw) (fun m _ ih=>by
  intro o0 r2 c2 ec2;subst ec2;rw[lz];exact(vk X n).2 _ _ ih o0 r2) m
def AJ(X:jK)(n:Nat):{B:jG->Option T8 // ∀(o0:jG),run (EK X n) [.at []] (rB (lm 0 kr) jF ((o0,()),()) () 80)=B o0}:=pu
open Go.Proofs
@[reducible] def U2(X:jK)(n:Nat):kD T8:=ol fQ f163 n (pd fQ [.cell 2 29] [] [0] 1 jF (kP (lF Syntax.ky) kr)) (cl:=nk [(58,zN (pU (mW (yg jG.ky) (lO .i64) (nN n)))),(59,yM [0] (uF (xG jG.ky) tz) (MZ 0 Kd) (uF (xG jG.ky) tz) (Ml lP II) (fun(b:Td) a=>(kE n) b.1)),(157,zN (pU (mW (yg jG.ky) (lO .i64) (mY n)))),(161,zN (pU (mW (yg jG.ky) my (sR n))))]) (nB:=pe [] [0] 1 jF jN) (cp:=wP [(196,lC X.pg)]) (wL:=lV [196])
def xz(X:jK)(n:Nat):{B:jG->Option T8 // ∀(o0:jG),run (U2 X n) [.at []] (rB (lm 0 kr) jF ((o0,()),()) () 25)=B o0}:=pu
open Go.Proofs
@[go_sem]def Jh:wX:=⟨[],[],(zK::zA::zK::zK::zK::me (l7 (zA::zA::zA::[]))),[oT jG.ky,oK,oT Syntax.ky],none,none⟩
@[reducible] def Ka(X:jK)(n:Nat):kD T8:=ol fQ f196 n (pd fQ [.cell 2 29] [] [0] 1 jF (kP (lF Syntax.ky) kr)) (cl:=nk [(162,zN (pU (mW (yg jG.ky) my (ul n))))]) (sx:=qk [([0,1,0,1,1],Jh)]) (nB:=pe [] [0] 1 jF jN) (cp:=wP [(72,kS (kO n)),(217,lC X.nO)]) (wL:=lV [72,217])
@[go_sem]abbrev Ji(v0:Int)(o0:jG)(o2:Syntax):jI:=⟨(.ptr 0 0::qA:: .ptr 1 0:: .ptr 2 0:: .int .i64 v0::mo (mq (qA::qA::qA::[]))),[.cells (jG.cells o0),.cells [.int .i64 0,.str (sb []),.int .i64 0,.lI true 0 [],.lI true 0 [],.lI true 0 [],.int .i64 0,.int .i64 0],.cells (Syntax.cells o2)],1,[]⟩
abbrev rZ:=Int->jG->Syntax->Option T8
abbrev U3(X:jK)(n:Nat)(K:List Kt)(Z:rZ):Prop:= ∀v0 o0 o2,run (Ka X n) K (Ji v0 o0 o2)=Z v0 o0 o2
def uy(X:jK)(n:Nat):LB (U3 X n) [0,1,0,1,1] [.blk 0,.cut [1,1,1],.at [1,1,1]]:=pu
def uz(X:jK)(n:Nat):Nat->rZ:=w8 ((uy X n).1)
def GD(X:jK){n:Nat}:uz X n (m+1)=(uy X n).1 (uz X n m):=rfl
@[go_sem]def Pd(X:jK)(n:Nat)(m:Nat):=Ij (uy X n) (uz X n) m
def yE(X:jK)(n:Nat):{B:jG->Option T8 // ∀(o0:jG),run (Ka X n) [.at []] (rB (lm 0 kr) jF ((o0,()),()) () 28)=B o0}:=pu
open Go.Proofs
def Hr:wX:=⟨[],[],(zK::zA::zK::zK::zK::me (me (l7 []))),[oT jG.ky,oK,oT Syntax.ky],none,none⟩
@[reducible] def xA(X:jK)(n:Nat):kD T8:=ol fQ f217 n (pd fQ [.cell 2 29] [] [0] 1 jF (kP (lF Syntax.ky) kr)) (cl:=nk [(59,yM [0] (uF (xG jG.ky) tz) (MZ 0 Kd) (uF (xG jG.ky) tz) (Ml lP II) (fun(b:Td) a=>(kE n) b.1)),(79,zN (pU (rI (yg jG.ky) lP my (lY n))))]) (sx:=qk [([0,1,0,1,1],Hr)]) (nB:=pe [] [0] 1 jF jN) (co:=LO [(157,Rk (pU (mW (yg jG.ky) (lO .i64) (mY n))))]) (cp:=wP [(72,kS (kO n)),(241,lC X.nY)]) (wL:=lV [72,241]) (yb:=lV [157]) (yd:=lV [])
def U4(X:jK)(n:Nat):tw (xA X n) [1,1,1,0,0,1,0,0,1,0,1,1]=true:=jE
def U5(X:jK)(n:Nat):aoS (xA X n) [1,1,1,0,0,1,0,0,1,0,1,1] 1 10 4 10 8 10:=⟨jE,jE,jE⟩
attribute [go_sem] U4 U5 Hr
@[go_sem]abbrev Hs(v0:Int)(o0:jG)(o2:Syntax):jI:=⟨(.ptr 0 0::qA:: .ptr 1 0:: .ptr 2 0:: .int .i64 v0::mo (mo (mq []))),[.cells (jG.cells o0),.cells [.int .i64 0,.str (sb []),.int .i64 0,.lI true 0 [],.lI true 0 [],.lI true 0 [],.int .i64 0,.int .i64 0],.cells (Syntax.cells o2)],1,[]⟩
abbrev Sk(X:jK)(n:Nat)(K:List Kt)(Z:rZ):Prop:= ∀v0 o0 o2,run (xA X n) K (Hs v0 o0 o2)=Z v0 o0 o2
def tJ(X:jK)(n:Nat):LB (Sk X n) [0,1,0,1,1] [.blk 0,.cut [1,1,1],.at [1,1,1]]:=pu
def pW(X:jK)(n:Nat):Nat->rZ:=w8 ((tJ X n).1)
def Fq(X:jK){n:Nat}:pW X n (m+1)=(tJ X n).1 (pW X n m):=rfl
@[go_sem]def NV(X:jK)(n:Nat)(m:Nat):=Ij (tJ X n) (pW X n) m
def xB(X:jK)(n:Nat):{B:jG->Option T8 // ∀(o0:jG),run (xA X n) [.at []] (rB (lm 0 kr) jF ((o0,()),()) () 41)=B o0}:=pu
open Go.Proofs
@[reducible] def Sl(X:jK)(n:Nat):kD T8:=ol fQ f241 n (pd fQ [.cell 2 29] [] [0] 1 jF (kP (lF Syntax.ky) kr)) (cl:=nk [(58,zN (pU (mW (yg jG.ky) (lO .i64) (nN n)))),(122,yM [0] (uF (xG jG.ky) tz) (MZ 0 (asT lP Kd)) (uF (xG jG.ky) tz) (Ml my II) (fun(b:Td) a=>(kZ n) b.1 a.1)),(157,zN (pU (mW (yg jG.ky) (lO .i64) (mY n))))]) (nB:=pe [] [0] 1 jF jN) (cp:=wP [(258,GB X.nL),(259,uv X.pL)]) (wL:=lV [258,259])
def wI(X:jK)(n:Nat):{B:jG->Option T8 // ∀(o0:jG),run (Sl X n) [.at []] (rB (lm 0 kr) jF ((o0,()),()) () 24)=B o0}:=pu
open Go.Proofs
def Fs:wX:=⟨[],[],(zK::zA::zA::zK::zK::zA::zK::zK::zK::Bm (me (l7 (l7 (zA::zA::zA::[]))))),[oT jG.ky,oT Syntax.ky,oK,oD,oA Syntax.row,oT Syntax.ky],none,none⟩
def Ft:wX:=⟨[],[],(zK::zA::zA::zK::zK::zA::zK::Bm (me (l7 (l7 (l7 (zA::[])))))),[oT jG.ky,oT Syntax.ky,oK,oD,oA Syntax.row],none,none⟩
@[reducible] def kV(X:jK)(n:Nat):kD T8:=ol fQ f258 n (pd fQ [.cell 4 29] [] [0] 1 jF (kP (lF Syntax.ky) kr)) (cl:=nk [(122,yM [0] (uF (xG jG.ky) tz) (MZ 0 (asT lP Kd)) (uF (xG jG.ky) tz) (Ml my II) (fun(b:Td) a=>(kZ n) b.1 a.1)),(157,zN (pU (mW (yg jG.ky) (lO .i64) (mY n))))]) (sx:=qk [([0,1,0,1,1,1,1,1,1,1,1],Fs),([0,0,1,1,1,1,1],Ft)]) (nB:=pe [] [0] 1 jF jN) (co:=LO [(34,EY [.arg 0 []] jF (lm 0 kr) jF (kP (lF Syntax.ky) kr) jF jN (fun(b:T6)(a:Unit)=>X.kg b.1.1)),(57,EY [.arg 0 []] jF (lm 0 (kP my kr)) jF kr jF jN (fun(b:T6)(a:(Bool×Unit))=>(lA n) a.1 b.1.1)),(79,Rk (pU (rI (yg jG.ky) lP my (lY n)))),(157,Rk (pU (mW (yg jG.ky) (lO .i64) (mY n))))]) (cp:=wP [(34,lC X.kg),(60,mS (lB n)),(72,kS (kO n))]) (wL:=lV [34,60,72]) (yb:=lV [34,57,79,157]) (yd:=lV [])
def QQ(X:jK)(n:Nat):aul (kV X n) [0,0,1,0,0,1,0,1,1,1,1,1,1,1,1] [0,0,1,1,1,0,0,1,1] [0,1,1,1]:=⟨jE,jE,jE⟩
def QR(X:jK)(n:Nat):Fz (kV X n) [0,0,1,0,0,1,0,1,1,1,1,1,1,1,1] 2 16 3 16 4 16 8 16/\aoR (kV X n) [0,0,1,0,0,1,0,1,1,1,1,1,1,1,1] 10 16 14 16/\Fz (kV X n) [0,0,1,1,1,0,0,1,1] 2 5 0 7 2 7 5 7/\Oe (kV X n) [0,1,1,1] 6 7=true:=⟨⟨jE,jE,jE,jE⟩,⟨jE,jE⟩,⟨jE,jE,jE,jE⟩,jE⟩
def QS(X:jK)(n:Nat):GR (kV X n) [0,0,1,1,1,0,0,1,1] 2 3=true/\GR (kV X n) [0,0,1,1,1,0,0,1,1] 2 4=false/\GR (kV X n) [0,0,1,1,1,0,0,1,1] 2 5=true/\GR (kV X n) [0,0,1,1,1,0,0,1,1] 2 6=true/\GR (kV X n) [0,0,1,1,1,0,0,1,1] 2 7=true/\MW (kV X n) [0,0,1,1,1,0,0,1,1] 2=false/\MW (kV X n) [0,1,1,1] 7=true:=⟨jE,jE,jE,jE,jE,jE,jE⟩
attribute [go_sem] QQ QR QS Fs Ft
abbrev zC(v0:Int)(o0:jG)(o1:Syntax)(r4:List Syntax)(o5:Syntax)(c4:Nat):jI:=⟨(.ptr 0 0::qA::qA:: .ptr 1 0:: .ptr 2 0::qA:: .acc 4 c4:: .ptr 5 0:: .int .i64 v0::Bl (mo (mq (mq (qA::qA::qA::[]))))),[.cells (jG.cells o0),.cells (Syntax.cells o1),.cells [.int .i64 0,.str (sb []),.int .i64 0,.lI true 0 [],.lI true 0 [],.lI true 0 [],.int .i64 0,.int .i64 0],.dead,.acc true 8 (mp Syntax.cells r4),.cells (Syntax.cells o5)],1,[]⟩
abbrev r6:List Kt:=[.blk 3,.cut [1,1,1,1,1,1,1,1,1],.at [1,1,1,1,1,1,1,1,1]]
abbrev uX:=Int->jG->Syntax->(List Syntax)->Syntax->Option T8
abbrev zD(X:jK)(n:Nat)(K:List Kt)(Z:uX):Prop:= ∀v0 o0 o1 r4 o5 c4,c4=r4.length->run (kV X n) K (zC v0 o0 o1 r4 o5 c4)=Z v0 o0 o1 r4 o5
abbrev zE(o0:jG)(o1:Syntax)(r4:List Syntax)(c4:Nat):jI:=⟨(.ptr 0 0::qA::qA:: .ptr 1 0:: .ptr 2 0::qA:: .acc 4 c4::Bl (mo (mq (mq (mq (qA::[])))))),[.cells (jG.cells o0),.cells (Syntax.cells o1),.cells [.int .i64 0,.str (sb []),.int .i64 0,.lI true 0 [],.lI true 0 [],.lI true 0 [],.int .i64 0,.int .i64 0],.dead,.acc true 8 (mp Syntax.cells r4)],1,[]⟩
abbrev uY:=jG->Syntax->(List Syntax)->Option T8
abbrev zF(X:jK)(n:Nat)(K:List Kt)(Z:uY):Prop:= ∀o0 o1 r4 c4,c4=r4.length->run (kV X n) K (zE o0 o1 r4 c4)=Z o0 o1 r4
attribute [go_sem] zC r6 zE
def r7(X:jK)(n:Nat):{B:uX->uX // ∀m X0,zD X n (.lq m [0,1,0,1,1,1,1,1,1,1,1]::r6) X0-> ∀(v0:Int)(o0:jG)(o1:Syntax)(r4:List Syntax)(o5:Syntax),run (kV X n) (.at [0,0,1,0,1,1,1,1,1,1,1,1]:: .lp m [0,1,0,1,1,1,1,1,1,1,1]::r6) (zC v0 o0 o1 r4 o5 (r4.length))=B X0 v0 o0 o1 r4 o5}:=pu
def qd(X:jK)(n:Nat):Nat->uX:=w8 ((r7 X n).1)
def Dl(X:jK){n:Nat}:qd X n (m+1)=(r7 X n).1 (qd X n m):=rfl
@[go_sem]def LC(X:jK)(n:Nat)(m:Nat):zD X n (.lq m [0,1,0,1,1,1,1,1,1,1,1]::r6) (qd X n m):=
 sE (G:=fun m Z=>zD X n (.lq m [0,1,0,1,1,1,1,1,1,1,1]::r6) Z) (fun _ _ _ _ _ _ _=>lw) (fun m _ ih=>by
  intro v0 o0 o1 r4 o5 c4 ec4;subst ec4;rw[lz];exact(r7 X n).2 _ _ ih v0 o0 o1 r4 o5) m
def r9(X:jK)(n:Nat):{B:uY->uY // ∀m X0,zF X n (.lq m [0,0,1,1,1,1,1]::[.blk 1,.cut [1,1,1,1,1,1],.at [1,1,1,1,1,1]]) X0-> ∀(o0:jG)(o1:Syntax)(r4:List Syntax),run (kV X n) (.at [0,0,0,1,1,1,1,1]:: .lp m [0,0,1,1,1,1,1]::[.blk 1,.cut [1,1,1,1,1,1],.at [1,1,1,1,1,1]]) (zE o0 o1 r4 (r4.length))=B X0 o0 o1 r4}:=pu
def si(X:jK)(n:Nat):Nat->uY:=w8 ((r9 X n).1)
def Dm(X:jK){n:Nat}:si X n (m+1)=(r9 X n).1 (si X n m):=rfl
@[go_sem]def LD(X:jK)(n:Nat)(m:Nat):zF X n (.lq m [0,0,1,1,1,1,1]::[.blk 1,.cut [1,1,1,1,1,1],.at [1,1,1,1,1,1]]) (si X n m):=
 sE (G:=fun m Z=>zF X n (.lq m [0,0,1,1,1,1,1]::[.blk 1,.cut [1,1,1,1,1,1],.at [1,1,1,1,1,1]]) Z) (fun _ _ _ _ _=>lw) (fun m _ ih=>by
  intro o0 o1 r4 c4 ec4;subst ec4;rw[lz];exact(r9 X n).2 _ _ ih o0 o1 r4) m
def vL(X:jK)(n:Nat):{B:Syntax->jG->Option T8 // ∀(a0:Syntax)(o0:jG),run (kV X n) [.at []] (rB (lm 0 (kP (lF Syntax.ky) kr)) jF ((o0,()),()) (a0,()) 100)=B a0 o0}:=pu
open Go.Proofs
@[reducible] def U6(X:jK)(n:Nat):kD Ta:=ol fQ f259 n (pd fQ [] [] [0,1] 2 ko kr) (cl:=nk [(56,zN (pU (mW (yg jG.ky) (lF j8.ky) (k8 n)))),(59,yM [0] (uF (xG jG.ky) tz) (MZ 0 Kd) (uF (xG jG.ky) tz) (Ml lP II) (fun(b:Td) a=>(kE n) b.1)),(74,zN (pU (S7 (yg jG.ky) (lO .i64) lP my (rL n)))),(122,yM [0] (uF (xG jG.ky) tz) (MZ 0 (asT lP Kd)) (uF (xG jG.ky) tz) (Ml my II) (fun(b:Td) a=>(kZ n) b.1 a.1))]) (nB:=pe [] [0,1] 2 ko jN) (cp:=wP [(60,mS (lB n)),(103,kS (lK n)),(138,mg (wm n)),(141,vG (pE n)),(267,Gz (xw n)),(268,Bx (BM n)),(269,zy X.ni)]) (wL:=lV [60,103,138,141,267,268,269])
def xC(X:jK)(n:Nat):{B:jG->Syntax->Option Ta // ∀(o0:jG)(o1:Syntax),run (U6 X n) [.at []] (rB (lm 0 (lm 1 kr)) ko ((o0,()),(o1,()),()) () 135)=B o0 o1}:=pu
open Go.Proofs
@[go_sem]def Eg:wX:=⟨[(3,8,true)],[],(zK::zA::zA::zK::me (l7 (zA::zA::[]))),[oT jG.ky,oA Syntax.row],none,none⟩
@[reducible] def zG(X:jK)(n:Nat):kD Tt:=ol fQ f269 n (pd fQ [.tmp 2] [] [0] 1 jF (kP (l5 Syntax.row) kr)) (cl:=nk [(79,zN (pU (rI (yg jG.ky) lP my (lY n)))),(122,yM [0] (uF (xG jG.ky) tz) (MZ 0 (asT lP Kd)) (uF (xG jG.ky) tz) (Ml my II) (fun(b:Td) a=>(kZ n) b.1 a.1))]) (sx:=qk [([0,0,1,1],Eg)]) (nB:=pe [] [0] 1 jF jN) (cp:=wP [(72,kS (kO n)),(275,lC X.mm)]) (wL:=lV [72,275])
@[go_sem]abbrev x8(o0:jG)(r1:List Syntax)(c1:Nat):jI:=⟨(.ptr 0 0::qA::qA:: .acc 1 c1::mo (mq (qA::qA::[]))),[.cells (jG.cells o0),.acc true 8 (mp Syntax.cells r1)],1,[]⟩
abbrev uf:=jG->(List Syntax)->Option Tt
abbrev x9(X:jK)(n:Nat)(K:List Kt)(Z:uf):Prop:= ∀o0 r1 c1,c1=r1.length->run (zG X n) K (x8 o0 r1 c1)=Z o0 r1
def rn(X:jK)(n:Nat):{B:uf->uf // ∀m X0,x9 X n (.lq m [0,0,1,1]::[.blk 0,.cut [1,1,1],.at [1,1,1]]) X0-> ∀(o0:jG)(r1:List Syntax),run (zG X n) (.at [0,0,0,1,1]:: .lp m [0,0,1,1]::[.blk 0,.cut [1,1,1],.at [1,1,1]]) (x8 o0 r1 (r1.length))=B X0 o0 r1}:=pu
def rq(X:jK)(n:Nat):Nat->uf:=w8 ((rn X n).1)
def CA(X:jK){n:Nat}:rq X n (m+1)=(rn X n).1 (rq X n m):=rfl
@[go_sem]def Kr(X:jK)(n:Nat)(m:Nat):x9 X n (.lq m [0,0,1,1]::[.blk 0,.cut [1,1,1],.at [1,1,1]]) (rq X n m):=
 sE (G:=fun m Z=>x9 X n (.lq m [0,0,1,1]::[.blk 0,.cut [1,1,1],.at [1,1,1]]) Z) (fun _ _ _ _=>lw) (fun m _ ih=>by
  intro o0 r1 c1 ec1;subst ec1;rw[lz];exact(rn X n).2 _ _ ih o0 r1) m
def uZ(X:jK)(n:Nat):{B:jG->Option Tt // ∀(o0:jG),run (zG X n) [.at []] (rB (lm 0 kr) jF ((o0,()),()) () 26)=B o0}:=pu
open Go.Proofs
@[go_sem]def zZ:wX:=⟨[],[],(zK::zA::zK::zK::zK::me (l7 (l7 (zA::[])))),[oT jG.ky,oK,oT Syntax.ky],none,none⟩
@[reducible] def Bc(X:jK)(n:Nat):kD T8:=ol fQ f275 n (pd fQ [.cell 2 29] [] [0] 1 jF (kP (lF Syntax.ky) kr)) (cl:=nk [(122,yM [0] (uF (xG jG.ky) tz) (MZ 0 (asT lP Kd)) (uF (xG jG.ky) tz) (Ml my II) (fun(b:Td) a=>(kZ n) b.1 a.1))]) (sx:=qk [([0,1,0,1,1],zZ)]) (nB:=pe [] [0] 1 jF jN) (cp:=wP [(72,kS (kO n)),(282,lC X.kK)]) (wL:=lV [72,282])
@[go_sem]abbrev z6(v0:Int)(o0:jG)(o2:Syntax):jI:=⟨(.ptr 0 0::qA:: .ptr 1 0:: .ptr 2 0:: .int .i64 v0::mo (mq (mq (qA::[])))),[.cells (jG.cells o0),.cells [.int .i64 0,.str (sb []),.int .i64 0,.lI true 0 [],.lI true 0 [],.lI true 0 [],.int .i64 0,.int .i64 0],.cells (Syntax.cells o2)],1,[]⟩
abbrev Jj(X:jK)(n:Nat)(K:List Kt)(Z:rZ):Prop:= ∀v0 o0 o2,run (Bc X n) K (z6 v0 o0 o2)=Z v0 o0 o2
def pF(X:jK)(n:Nat):LB (Jj X n) [0,1,0,1,1] [.blk 0,.cut [1,1,1],.at [1,1,1]]:=pu
def pG(X:jK)(n:Nat):Nat->rZ:=w8 ((pF X n).1)
def yc(X:jK){n:Nat}:pG X n (m+1)=(pF X n).1 (pG X n m):=rfl
@[go_sem]def GF(X:jK)(n:Nat)(m:Nat):=Ij (pF X n) (pG X n) m
def rC(X:jK)(n:Nat):{B:jG->Option T8 // ∀(o0:jG),run (Bc X n) [.at []] (rB (lm 0 kr) jF ((o0,()),()) () 30)=B o0}:=pu
open Go.Proofs
@[reducible] def nG(X:jK)(n:Nat):kD T8:=ol fQ f282 n (ajp (KQ [(289,GU [.arg 0 [],.obj 0 0 []] kH (lm 0 kr) kH kr (fun(b:(Unit×T6))(a:Unit)=>(oa n) b.2.1.1))]) (pd fQ [.cell 2 29] [] [0] 1 jF (kP (lF Syntax.ky) kr)) (pe [] [0] 1 jF jN)) (cl:=nk [(79,zN (pU (rI (yg jG.ky) lP my (lY n)))),(157,zN (pU (mW (yg jG.ky) (lO .i64) (mY n))))]) (nB:=ajq (KQ [(289,GU [.arg 0 [],.obj 0 0 []] kH (lm 0 kr) kH kr (fun(b:(Unit×T6))(a:Unit)=>(oa n) b.2.1.1))]) (pd fQ [.cell 2 29] [] [0] 1 jF (kP (lF Syntax.ky) kr)) (pe [] [0] 1 jF jN)) (co:=LO [(56,Rk (pU (mW (yg jG.ky) (lF j8.ky) (k8 n)))),(57,EY [.arg 0 []] jF (lm 0 (kP my kr)) jF kr jF jN (fun(b:T6)(a:(Bool×Unit))=>(lA n) a.1 b.1.1)),(58,Rk (pU (mW (yg jG.ky) (lO .i64) (nN n)))),(72,EY [.arg 0 []] jF (lm 0 (kP (lO .i64) kr)) jF kr jF jN (fun(b:T6)(a:(Int×Unit))=>(kO n) a.1 b.1.1))]) (cp:=wP [(290,uv X.nZ),(291,uv X.oU)]) (wL:=lV [290,291]) (yb:=lV [56,57,58,72]) (yd:=lV [])
def QT(X:jK)(n:Nat):aul (nG X n) [0,1] [0,1,1,0,1,1,1,1,1] [0,1,1,1,1]:=⟨jE,jE,jE⟩
def QU(X:jK)(n:Nat):aoS (nG X n) [0,1] 0 7 3 7 6 7/\Fz (nG X n) [0,1,1,0,1,1,1,1,1] 3 6 0 9 3 9 6 9/\Fz (nG X n) [0,1,1,1,1] 0 3 0 8 3 8 5 8/\Fz (nG X n) [0,1,1,1,1] 0 11 3 11 5 11 8 11/\Oe (nG X n) [0,1,1,1,1] 10 11=true:=⟨⟨jE,jE,jE⟩,⟨jE,jE,jE,jE⟩,⟨jE,jE,jE,jE⟩,⟨jE,jE,jE,jE⟩,jE⟩
def QV(X:jK)(n:Nat):MW (nG X n) [0,1] 7=true/\MW (nG X n) [0,1,1,0,1,1,1,1,1] 9=true:=⟨jE,jE⟩
attribute [go_sem] QT QU QV
def s5(X:jK)(n:Nat):{B:jG->Option T8 // ∀(o0:jG),run (nG X n) [.at []] (rB (lm 0 kr) jF ((o0,()),()) () 54)=B o0}:=pu
open Go.Proofs
@[reducible] def Sn(X:jK)(n:Nat):kD Ta:=ol fQ f290 n (pd fQ [] [] [0,1] 2 ko kr) (nB:=pe [] [0,1] 2 ko jN) (cp:=wP [(60,mS (lB n)),(269,zy X.ni)]) (wL:=lV [60,269])
def wJ(X:jK)(n:Nat):{B:jG->Syntax->Option Ta // ∀(o0:jG)(o1:Syntax),run (Sn X n) [.at []] (rB (lm 0 (lm 1 kr)) ko ((o0,()),(o1,()),()) () 17)=B o0 o1}:=pu
open Go.Proofs
def GG:wX:=⟨[],[],(zK::zK::Bm (Bm (l7 (l7 (l7 (zA::zA::zA::[])))))),[oT jG.ky,oC [zK,zK,zK,zK,zT (l5 jM.row),zT (l5 Syntax.row),zK,zK],oA l6],none,none⟩
@[reducible] def oP(X:jK)(n:Nat):kD Ta:=ol fQ f291 n (pd fQ [] [] [0,1] 2 ko kr) (cl:=nk [(56,zN (pU (mW (yg jG.ky) (lF j8.ky) (k8 n)))),(59,yM [0] (uF (xG jG.ky) tz) (MZ 0 Kd) (uF (xG jG.ky) tz) (Ml lP II) (fun(b:Td) a=>(kE n) b.1))]) (sx:=qk [([0,1,1,0,1,1,1,1,1,1,1,1,1,1,1,1,1,0,1],GG)]) (nB:=pe [] [0,1] 2 ko jN) (co:=LO [(59,EY [.arg 0 []] jF (lm 0 kr) jF (kP lP kr) jF (kP lP kr) (fun(b:T6)(a:Unit)=>((wz n) b.1.1).map fun r=>(PR.ok r:PR TK TK))),(72,EY [.arg 0 []] jF (lm 0 (kP (lO .i64) kr)) jF kr jF jN (fun(b:T6)(a:(Int×Unit))=>(kO n) a.1 b.1.1))]) (cp:=wP [(34,lC X.kg),(103,kS (lK n)),(119,mg (nF n)),(138,mg (wm n)),(179,mg (ou n)),(282,lC X.kK),(290,uv X.nZ),(294,Dj (uT n))]) (wL:=lV [34,103,119,138,179,282,290,294]) (yb:=lV [59,72]) (yd:=lV [])
def So(X:jK)(n:Nat):aml (oP X n) [0,0,1,0,0,1,1,0,1,1,1,1,1,1,1,1,1,1,1,1,1,0,1] [1,0,1,0,0,1,1,0,1,1,1,1,1,1,1,1,1,1,1,1,1,0,1]:=⟨jE,jE⟩
def Sp(X:jK)(n:Nat):aoR (oP X n) [0,0,1,0,0,1,1,0,1,1,1,1,1,1,1,1,1,1,1,1,1,0,1] 6 8 7 8/\Fz (oP X n) [1,0,1,0,0,1,1,0,1,1,1,1,1,1,1,1,1,1,1,1,1,0,1] 4 10 8 10 4 13 8 13/\Oe (oP X n) [1,0,1,0,0,1,1,0,1,1,1,1,1,1,1,1,1,1,1,1,1,0,1] 10 13=true:=⟨⟨jE,jE⟩,⟨jE,jE,jE,jE⟩,jE⟩
def Sq(X:jK)(n:Nat):MW (oP X n) [0,0,1,0,0,1,1,0,1,1,1,1,1,1,1,1,1,1,1,1,1,0,1] 8=true:=jE
attribute [go_sem] So Sp Sq GG
@[go_sem]abbrev AK(o0:jG)(v1:Int)(v2:Str)(v3:Int)(v4:List jM)(v5:List Syntax)(v6:Int)(v7:Int)(r2:List Str)(c2:Nat):jI:=⟨(.ptr 0 0:: .ptr 1 0::Bl (Bl (mq (mq (mq (qA::qA::qA::[])))))),[.cells (jG.cells o0),.cells [.int .i64 v1,.str (sb v2),.int .i64 v3,.acc 2 c2,.lI false 2 (mp jM.cells v4),.lI false 8 (mp Syntax.cells v5),.int .i64 v6,.int .i64 v7],.acc true 1 (mp mA r2)],2,[]⟩
abbrev vM:=jG->Int->Str->Int->Ti->(List Syntax)->Int->Int->(List Str)->Option Ta
abbrev AM(X:jK)(n:Nat)(K:List Kt)(Z:vM):Prop:= ∀o0 v1 v2 v3 v4 v5 v6 v7 r2 c2,c2=r2.length->run (oP X n) K (AK o0 v1 v2 v3 v4 v5 v6 v7 r2 c2)=Z o0 v1 v2 v3 v4 v5 v6 v7 r2
def s6(X:jK)(n:Nat):{B:vM->vM // ∀m X0,AM X n (.lq m [0,1,1,0,1,1,1,1,1,1,1,1,1,1,1,1,1,0,1]::[.blk 1,.blk 0]) X0-> ∀(o0:jG)(v1:Int)(v2:Str)(v3:Int)(v4:List jM)(v5:List Syntax)(v6:Int)(v7:Int)(r2:List Str),run (oP X n) (.at [0,0,1,1,0,1,1,1,1,1,1,1,1,1,1,1,1,1,0,1]:: .lp m [0,1,1,0,1,1,1,1,1,1,1,1,1,1,1,1,1,0,1]::[.blk 1,.blk 0]) (AK o0 v1 v2 v3 v4 v5 v6 v7 r2 (r2.length))=B X0 o0 v1 v2 v3 v4 v5 v6 v7 r2}:=pu
def s7(X:jK)(n:Nat):Nat->vM:=w8 ((s6 X n).1)
def Eh(X:jK){n:Nat}:s7 X n (m+1)=(s6 X n).1 (s7 X n m):=rfl
@[go_sem]def L7(X:jK)(n:Nat)(m:Nat):AM X n (.lq m [0,1,1,0,1,1,1,1,1,1,1,1,1,1,1,1,1,0,1]::[.blk 1,.blk 0]) (s7 X n m):=
 sE (G:=fun m Z=>AM X n (.lq m [0,1,1,0,1,1,1,1,1,1,1,1,1,1,1,1,1,0,1]::[.blk 1,.blk 0]) Z) (fun _ _ _ _ _ _ _ _ _ _ _=>lw) (fun m _ ih=>by
  intro o0 v1 v2 v3 v4 v5 v6 v7 r2 c2 ec2;subst ec2;rw[lz];exact(s6 X n).2 _ _ ih o0 v1 v2 v3 v4 v5 v6 v7 r2) m
def wK(X:jK)(n:Nat):{B:jG->Syntax->Option Ta // ∀(o0:jG)(o1:Syntax),run (oP X n) [.at []] (rB (lm 0 (lm 1 kr)) ko ((o0,()),(o1,()),()) () 145)=B o0 o1}:=pu
open Go.Proofs
@[reducible] def qe(X:jK)(n:Nat):kD T8:=ol fQ f77 n (pd fQ [.cell 8 29] [] [0] 1 jF (kP (lF Syntax.ky) kr)) (cd:=KO [(121,pU (S7 (lF Syntax.ky) (l5 jO.row) (lF Syntax.ky) (lF Syntax.ky) (zX n)))]) (nB:=pe [] [0] 1 jF jN) (co:=LO [(34,EY [.arg 0 []] jF (lm 0 kr) jF (kP (lF Syntax.ky) kr) jF jN (fun(b:T6)(a:Unit)=>X.kg b.1.1))]) (cp:=wP [(60,mS (lB n))]) (wL:=lV [60]) (yb:=lV [34]) (yd:=lV [])
def Pe(X:jK)(n:Nat):tw (qe X n) [0,1,1]=true:=jE
def Pf(X:jK)(n:Nat):aoR (qe X n) [0,1,1] 0 5 3 5:=⟨jE,jE⟩
def Pg(X:jK)(n:Nat):GR (qe X n) [0,1,1] 3 4=true/\GR (qe X n) [0,1,1] 3 5=true/\MW (qe X n) [0,1,1] 3=false:=⟨jE,jE,jE⟩
attribute [go_sem] Pe Pf Pg
def u0(X:jK)(n:Nat):{B:Syntax->Tm->Str->jG->Option T8 // ∀(a0:Syntax)(a1:Tm)(a2:Str)(o0:jG),run (qe X n) [.at []] (rB pS jF ((o0,()),()) (a0,a1,a2,()) 19)=B a0 a1 a2 o0}:=pu
open Go.Proofs
def jJ:Nat->jK
 |0=>⟨Fu.z,Fu.z,Fu.z,Fu.z,Fu.z,Fu.z,Fu.z,Fu.z,Fu.z,Fu.z,Fu.z,Fu.z,Fu.z,Fu.z,Fu.z,Fu.z,Fu.z,Fu.z⟩
 |n+1=>⟨(uw (jJ n) n).1,(yA (jJ n) n).1,(vK (jJ n) n).1,(yC (jJ n) n).1,(wH (jJ n) n).1,(AJ (jJ n) n).1,(xz (jJ n) n).1,(yE (jJ n) n).1,(xB (jJ n) n).1,(wI (jJ n) n).1,(vL (jJ n) n).1,(xC (jJ n) n).1,(uZ (jJ n) n).1,(rC (jJ n) n).1,(s5 (jJ n) n).1,(wJ (jJ n) n).1,(wK (jJ n) n).1,(u0 (jJ n) n).1⟩
def kg:jG->Option T8:=(jJ n).kg
def Jk{n:Nat}:kg (n+1)=(uw (jJ n) n).1:=rfl
def p4:Int->jG->Option T8:=(jJ n).p4
def Wr{n:Nat}:p4 (n+1)=(yA (jJ n) n).1:=rfl
def mw:Str->Str->jG->Option Tv:=(jJ n).mw
def QW{n:Nat}:mw (n+1)=(vK (jJ n) n).1:=rfl
def p5:Int->jG->Option T8:=(jJ n).p5
def Ws{n:Nat}:p5 (n+1)=(yC (jJ n) n).1:=rfl
def oS:Int->jG->Option T8:=(jJ n).oS
def Ss{n:Nat}:oS (n+1)=(wH (jJ n) n).1:=rfl
def oZ:jG->Option T8:=(jJ n).oZ
def XK{n:Nat}:oZ (n+1)=(AJ (jJ n) n).1:=rfl
def nq:jG->Option T8:=(jJ n).nq
def U7{n:Nat}:nq (n+1)=(xz (jJ n) n).1:=rfl
def pg:jG->Option T8:=(jJ n).pg
def Wt{n:Nat}:pg (n+1)=(yE (jJ n) n).1:=rfl
def nO:jG->Option T8:=(jJ n).nO
def U8{n:Nat}:nO (n+1)=(xB (jJ n) n).1:=rfl
def nY:jG->Option T8:=(jJ n).nY
def St{n:Nat}:nY (n+1)=(wI (jJ n) n).1:=rfl
def nL:Syntax->jG->Option T8:=(jJ n).nL
def QX{n:Nat}:nL (n+1)=(vL (jJ n) n).1:=rfl
def pL:jG->Syntax->Option Ta:=(jJ n).pL
def U9{n:Nat}:pL (n+1)=(xC (jJ n) n).1:=rfl
def ni:jG->Option Tt:=(jJ n).ni
def Ph{n:Nat}:ni (n+1)=(uZ (jJ n) n).1:=rfl
def mm:jG->Option T8:=(jJ n).mm
def JM{n:Nat}:mm (n+1)=(rC (jJ n) n).1:=rfl
def kK:jG->Option T8:=(jJ n).kK
def GH{n:Nat}:kK (n+1)=(s5 (jJ n) n).1:=rfl
def nZ:jG->Syntax->Option Ta:=(jJ n).nZ
def Su{n:Nat}:nZ (n+1)=(wJ (jJ n) n).1:=rfl
def oU:jG->Syntax->Option Ta:=(jJ n).oU
def Sv{n:Nat}:oU (n+1)=(wK (jJ n) n).1:=rfl
def nj:Syntax->Tm->Str->jG->Option T8:=(jJ n).nj
def Pj{n:Nat}:nj (n+1)=(u0 (jJ n) n).1:=rfl
def jY{n:Nat}:(jJ n).kg=kg n/\(jJ n).p4=p4 n/\(jJ n).mw=mw n/\(jJ n).p5=p5 n/\(jJ n).oS=oS n/\(jJ n).oZ=oZ n/\(jJ n).nq=nq n/\(jJ n).pg=pg n/\(jJ n).nO=nO n/\(jJ n).nY=nY n/\(jJ n).nL=nL n/\(jJ n).pL=pL n/\(jJ n).ni=ni n/\(jJ n).mm=mm n/\(jJ n).kK=kK n/\(jJ n).nZ=nZ n/\(jJ n).oU=oU n/\(jJ n).nj=nj n:=⟨rfl,rfl,rfl,rfl,rfl,rfl,rfl,rfl,rfl,rfl,rfl,rfl,rfl,rfl,rfl,rfl,rfl,rfl⟩
def kM: ∀n:Nat,(∀(o0:jG)(r:T8),(jJ n).kg o0=some r->SP fQ 34 (lm 0 kr) jF ((o0,()),()) () true jF (kP (lF Syntax.ky) kr) jF jN r)/\(∀(a0:Int)(o0:jG)(r:T8),(jJ n).p4 a0 o0=some r->SP fQ 75 (lm 0 (kP (lO .i64) kr)) jF ((o0,()),()) (a0,()) true jF (kP (lF Syntax.ky) kr) jF jN r)/\(∀(a0:Str)(a1:Str)(o0:jG)(r:Tv),(jJ n).mw a0 a1 o0=some r->SP fQ 78 (lm 0 (kP lP (kP lP kr))) jF ((o0,()),()) (a0,a1,()) true jF (kP (l5 jO.row) kr) jF jN r)/\(∀(a0:Int)(o0:jG)(r:T8),(jJ n).p5 a0 o0=some r->SP fQ 76 (lm 0 (kP (lO .i64) kr)) jF ((o0,()),()) (a0,()) true jF (kP (lF Syntax.ky) kr) jF jN r)/\(∀(a0:Int)(o0:jG)(r:T8),(jJ n).oS a0 o0=some r->SP fQ 80 (lm 0 (kP (lO .i64) kr)) jF ((o0,()),()) (a0,()) true jF (kP (lF Syntax.ky) kr) jF jN r)/\(∀(o0:jG)(r:T8),(jJ n).oZ o0=some r->SP fQ 125 (lm 0 kr) jF ((o0,()),()) () true jF (kP (lF Syntax.ky) kr) jF jN r)/\(∀(o0:jG)(r:T8),(jJ n).nq o0=some r->SP fQ 163 (lm 0 kr) jF ((o0,()),()) () true jF (kP (lF Syntax.ky) kr) jF jN r)/\(∀(o0:jG)(r:T8),(jJ n).pg o0=some r->SP fQ 196 (lm 0 kr) jF ((o0,()),()) () true jF (kP (lF Syntax.ky) kr) jF jN r)/\(∀(o0:jG)(r:T8),(jJ n).nO o0=some r->SP fQ 217 (lm 0 kr) jF ((o0,()),()) () true jF (kP (lF Syntax.ky) kr) jF jN r)/\(∀(o0:jG)(r:T8),(jJ n).nY o0=some r->SP fQ 241 (lm 0 kr) jF ((o0,()),()) () true jF (kP (lF Syntax.ky) kr) jF jN r)/\(∀(a0:Syntax)(o0:jG)(r:T8),(jJ n).nL a0 o0=some r->SP fQ 258 (lm 0 (kP (lF Syntax.ky) kr)) jF ((o0,()),()) (a0,()) true jF (kP (lF Syntax.ky) kr) jF jN r)/\(∀(o0:jG)(o1:Syntax)(r:Ta),(jJ n).pL o0 o1=some r->SP fQ 259 (lm 0 (lm 1 kr)) ko ((o0,()),(o1,()),()) () true ko kr ko jN r)/\(∀(o0:jG)(r:Tt),(jJ n).ni o0=some r->SP fQ 269 (lm 0 kr) jF ((o0,()),()) () true jF (kP (l5 Syntax.row) kr) jF jN r)/\(∀(o0:jG)(r:T8),(jJ n).mm o0=some r->SP fQ 275 (lm 0 kr) jF ((o0,()),()) () true jF (kP (lF Syntax.ky) kr) jF jN r)/\(∀(o0:jG)(r:T8),(jJ n).kK o0=some r->SP fQ 282 (lm 0 kr) jF ((o0,()),()) () true jF (kP (lF Syntax.ky) kr) jF jN r)/\(∀(o0:jG)(o1:Syntax)(r:Ta),(jJ n).nZ o0 o1=some r->SP fQ 290 (lm 0 (lm 1 kr)) ko ((o0,()),(o1,()),()) () true ko kr ko jN r)/\(∀(o0:jG)(o1:Syntax)(r:Ta),(jJ n).oU o0 o1=some r->SP fQ 291 (lm 0 (lm 1 kr)) ko ((o0,()),(o1,()),()) () true ko kr ko jN r)/\(∀(a0:Syntax)(a1:Tm)(a2:Str)(o0:jG)(r:T8),(jJ n).nj a0 a1 a2 o0=some r->SP fQ 77 pS jF ((o0,()),()) (a0,a1,a2,()) true jF (kP (lF Syntax.ky) kr) jF jN r)
 |0=>⟨fun _ _ h=>(by cases h),fun _ _ _ h=>(by cases h),fun _ _ _ _ h=>(by cases h),fun _ _ _ h=>(by cases h),fun _ _ _ h=>(by cases h),fun _ _ h=>(by cases h),fun _ _ h=>(by cases h),fun _ _ h=>(by cases h),fun _ _ h=>(by cases h),fun _ _ h=>(by cases h),fun _ _ _ h=>(by cases h),fun _ _ _ h=>(by cases h),fun _ _ h=>(by cases h),fun _ _ h=>(by cases h),fun _ _ h=>(by cases h),fun _ _ _ h=>(by cases h),fun _ _ _ h=>(by cases h),fun _ _ _ _ _ h=>(by cases h)⟩
 |n+1=>by
  obtain⟨oQ,Va,Fv,Vb,QY,Wu,Sw,Vc,Sx,QZ,Pk,Sy,Ei,Jl,Fw,GI,Q0,NW⟩:=kM n
  exact⟨fun o0 r h=>ayU (ajr fun u=>Ol afs (fun _ _ _ _=>rfl) (jE) (fun b a r h=>(KV n) b.2.1.1 r h u)) (((uw (jJ n) n).2 o0).trans h) (gd (jL (nQ (mh (c1 qV n))) (jL (n7 (fun b a r h=>(kY n) b.1 r h)) (jL (nQ (Og (c3 ve n))) (jL (nQ (ui (c2 mZ n))) jQ)))) jR (p:=(jX (kw (fun b a r h=>(Va) a.1 b.1.1 r h)) (jX (kw (fun b a r h=>(Vb) a.1 b.1.1 r h)) (jX (kw (fun b a r h=>(QY) a.1 b.1.1 r h)) kR)))) (c:=(mi (we (lE n)) (mi (we (fun b a r h=>(NW) a.1 a.2.1 a.2.2.1 b.1.1 r h)) (mi (we (fun b a r h=>(Fv) a.1 a.2.1 b.1.1 r h)) rJ))))) func34 ntmps34 results34,
   fun a0 o0 r h=>P2 (((yA (jJ n) n).2 a0 o0).trans h) (gd (jL (n7 (fun b a r h=>(kY n) b.1 r h)) (jL (nQ (ui (c2 mZ n))) (jL (n7 (fun b a r h=>(G2 n) b.1 r h)) (jL (Vz (c3 Lf n)) jQ)))) jR (p:=(jX (kw (fun b a r h=>(oQ) b.1.1 r h)) (jX (kw (nh n)) (jX (kw (lE n)) (jX (kw (fun b a r h=>(Fv) a.1 a.2.1 b.1.1 r h)) (jX (kw (qM n)) kR))))))) func75 ntmps75 results75,
   fun a0 a1 o0 r h=>P2 (((vK (jJ n) n).2 a0 a1 o0).trans h) (gd (jL (n7 (fun b a r h=>(kY n) b.1 r h)) (jL (nQ (mh (c1 vF n))) (jL (nA (c2 Rv n)) jQ))) jR (p:=(jX (kw (fun b a r h=>(oQ) b.1.1 r h)) (jX (kw (nh n)) (jX (kw (lE n)) (jX (kw (qM n)) kR)))))) func78 ntmps78 results78,
   fun a0 o0 r h=>P2 (((yC (jJ n) n).2 a0 o0).trans h) (gd (jL (n7 (fun b a r h=>(kY n) b.1 r h)) (jL (n7 (fun b a r h=>(G2 n) b.1 r h)) (jL (n7 (fun b a r h=>(lj n) b.1 a.1 r h)) jQ))) jR (p:=(jX (kw (fun b a r h=>(oQ) b.1.1 r h)) (jX (kw (nh n)) (jX (kw (qM n)) kR))))) func76 ntmps76 results76,
   fun a0 o0 r h=>P2 (((wH (jJ n) n).2 a0 o0).trans h) (gd (jL (n7 (fun b a r h=>(lj n) b.1 a.1 r h)) (jL (nA (c2 Rv n)) (jL (n7 (fun b a r h=>(Nv n) b.1 a.1 r h)) jQ))) (nP (Og (c3 Lf n)) jR) (p:=(jX (kw (fun b a r h=>(Wu) b.1.1 r h)) kR)) (c:=(mi (we (fun b a r h=>(oQ) b.1.1 r h)) rJ))) func80 ntmps80 results80,
   fun o0 r h=>P2 (((AJ (jJ n) n).2 o0).trans h) (gd (jL (nQ (mh (c1 Dg n))) (jL (nQ (mh (c1 E5 n))) (jL (nA (Za n)) jQ))) jR (p:=(jX (kw (nf n)) (jX (kw (lE n)) (jX (kw (rP n)) (jX (kw (fun b a r h=>(Sw) b.1.1 r h)) kR)))))) func125 ntmps125 results125,
   fun o0 r h=>P2 (((xz (jJ n) n).2 o0).trans h) (gd (jL (nQ (mh (c1 qV n))) (jL (n7 (fun b a r h=>(kY n) b.1 r h)) (jL (nQ (mh (c1 qm n))) (jL (nQ (mh (c1 Dg n))) jQ)))) jR (p:=(jX (kw (fun b a r h=>(Vc) b.1.1 r h)) kR))) func163 ntmps163 results163,
   fun o0 r h=>P2 (((yE (jJ n) n).2 o0).trans h) (gd (jL (nQ (mh (c1 E5 n))) jQ) jR (p:=(jX (kw (lE n)) (jX (kw (fun b a r h=>(Sx) b.1.1 r h)) kR)))) func196 ntmps196 results196,
   fun o0 r h=>P2 (((xB (jJ n) n).2 o0).trans h) (gd (jL (n7 (fun b a r h=>(kY n) b.1 r h)) (jL (nQ (ui (c2 mZ n))) jQ)) jR (p:=(jX (kw (lE n)) (jX (kw (fun b a r h=>(QZ) b.1.1 r h)) kR))) (c:=(mi (IL (mh (c1 qm n))) rJ))) func217 ntmps217 results217,
   fun o0 r h=>P2 (((wI (jJ n) n).2 o0).trans h) (gd (jL (nQ (mh (c1 qV n))) (jL (n7 (fun b a r h=>(lj n) b.1 a.1 r h)) (jL (nQ (mh (c1 qm n))) jQ))) jR (p:=(jX (kw (fun b a r h=>(Pk) a.1 b.1.1 r h)) (jX (kw (fun b a r h=>(Sy) b.1.1 b.2.1.1 r h)) kR)))) func241 ntmps241 results241,
   fun a0 o0 r h=>P2 (((vL (jJ n) n).2 a0 o0).trans h) (gd (jL (n7 (fun b a r h=>(lj n) b.1 a.1 r h)) (jL (nQ (mh (c1 qm n))) jQ)) jR (p:=(jX (kw (fun b a r h=>(oQ) b.1.1 r h)) (jX (kw (nh n)) (jX (kw (lE n)) kR)))) (c:=(mi (we (fun b a r h=>(oQ) b.1.1 r h)) (mi (we (nf n)) (mi (IL (ui (c2 mZ n))) (mi (IL (mh (c1 qm n))) rJ)))))) func258 ntmps258 results258,
   fun o0 o1 r h=>P2 (((xC (jJ n) n).2 o0 o1).trans h) (gd (jL (nQ (mh (c1 lc n))) (jL (n7 (fun b a r h=>(kY n) b.1 r h)) (jL (nQ (Og (c3 ve n))) (jL (n7 (fun b a r h=>(lj n) b.1 a.1 r h)) jQ)))) jR (p:=(jX (kw (nh n)) (jX (kw (rP n)) (jX (kw (G8 n)) (jX (kw (zu n)) (jX (kw (Pa n)) (jX (kw (UY n)) (jX (kw (fun b a r h=>(Ei) b.1.1 r h)) kR))))))))) func259 ntmps259 results259,
   fun o0 r h=>P2 (((uZ (jJ n) n).2 o0).trans h) (gd (jL (nQ (ui (c2 mZ n))) (jL (n7 (fun b a r h=>(lj n) b.1 a.1 r h)) jQ)) jR (p:=(jX (kw (lE n)) (jX (kw (fun b a r h=>(Jl) b.1.1 r h)) kR)))) func269 ntmps269 results269,
   fun o0 r h=>P2 (((rC (jJ n) n).2 o0).trans h) (gd (jL (n7 (fun b a r h=>(lj n) b.1 a.1 r h)) jQ) jR (p:=(jX (kw (lE n)) (jX (kw (fun b a r h=>(Fw) b.1.1 r h)) kR)))) func275 ntmps275 results275,
   fun o0 r h=>ayU (ajr fun u=>Ol afs (fun _ _ _ _=>rfl) (jE) (fun b a r h=>(Jy n) b.2.1.1 r h u)) (((s5 (jJ n) n).2 o0).trans h) (gd (jL (nQ (ui (c2 mZ n))) (jL (nQ (mh (c1 qm n))) jQ)) jR (p:=(jX (kw (fun b a r h=>(GI) b.1.1 b.2.1.1 r h)) (jX (kw (fun b a r h=>(Q0) b.1.1 b.2.1.1 r h)) kR))) (c:=(mi (IL (mh (c1 lc n))) (mi (we (nf n)) (mi (IL (mh (c1 qV n))) (mi (we (lE n)) rJ)))))) func282 ntmps282 results282,
   fun o0 o1 r h=>P2 (((wJ (jJ n) n).2 o0 o1).trans h) (gd jQ jR (p:=(jX (kw (nh n)) (jX (kw (fun b a r h=>(Ei) b.1.1 r h)) kR)))) func290 ntmps290 results290,
   fun o0 o1 r h=>P2 (((wK (jJ n) n).2 o0 o1).trans h) (gd (jL (nQ (mh (c1 lc n))) (jL (n7 (fun b a r h=>(kY n) b.1 r h)) jQ)) jR (p:=(jX (kw (fun b a r h=>(oQ) b.1.1 r h)) (jX (kw (rP n)) (jX (kw (qM n)) (jX (kw (G8 n)) (jX (kw (BK n)) (jX (kw (fun b a r h=>(Fw) b.1.1 r h)) (jX (kw (fun b a r h=>(GI) b.1.1 b.2.1.1 r h)) (jX (kw (Lu n)) kR))))))))) (c:=(mi (aq9 (Nt n)) (mi (we (lE n)) rJ)))) func291 ntmps291 results291,
   fun a0 a1 a2 o0 r h=>P2 (((u0 (jJ n) n).2 a0 a1 a2 o0).trans h) (gd jQ (nP (Og (c3 Lf n)) jR) (p:=(jX (kw (nh n)) kR)) (c:=(mi (we (fun b a r h=>(oQ) b.1.1 r h)) rJ))) func77 ntmps77 results77⟩
def Sz: ∀(o0:jG)(r:T8),kg n o0=some r->SP fQ 34 (lm 0 kr) jF ((o0,()),()) () true jF (kP (lF Syntax.ky) kr) jF jN r:=(kM n).1
def ajD: ∀(a0:Int)(o0:jG)(r:T8),p4 n a0 o0=some r->SP fQ 75 (lm 0 (kP (lO .i64) kr)) jF ((o0,()),()) (a0,()) true jF (kP (lF Syntax.ky) kr) jF jN r:=(kM n).2.1
def afx: ∀(a0:Str)(a1:Str)(o0:jG)(r:Tv),mw n a0 a1 o0=some r->SP fQ 78 (lm 0 (kP lP (kP lP kr))) jF ((o0,()),()) (a0,a1,()) true jF (kP (l5 jO.row) kr) jF jN r:=(kM n).2.2.1
def ajE: ∀(a0:Int)(o0:jG)(r:T8),p5 n a0 o0=some r->SP fQ 76 (lm 0 (kP (lO .i64) kr)) jF ((o0,()),()) (a0,()) true jF (kP (lF Syntax.ky) kr) jF jN r:=(kM n).2.2.2.1
def ag0: ∀(a0:Int)(o0:jG)(r:T8),oS n a0 o0=some r->SP fQ 80 (lm 0 (kP (lO .i64) kr)) jF ((o0,()),()) (a0,()) true jF (kP (lF Syntax.ky) kr) jF jN r:=(kM n).2.2.2.2.1
def akx: ∀(o0:jG)(r:T8),oZ n o0=some r->SP fQ 125 (lm 0 kr) jF ((o0,()),()) () true jF (kP (lF Syntax.ky) kr) jF jN r:=(kM n).2.2.2.2.2.1
def ahw: ∀(o0:jG)(r:T8),nq n o0=some r->SP fQ 163 (lm 0 kr) jF ((o0,()),()) () true jF (kP (lF Syntax.ky) kr) jF jN r:=(kM n).2.2.2.2.2.2.1
def ajF: ∀(o0:jG)(r:T8),pg n o0=some r->SP fQ 196 (lm 0 kr) jF ((o0,()),()) () true jF (kP (lF Syntax.ky) kr) jF jN r:=(kM n).2.2.2.2.2.2.2.1
def ahx: ∀(o0:jG)(r:T8),nO n o0=some r->SP fQ 217 (lm 0 kr) jF ((o0,()),()) () true jF (kP (lF Syntax.ky) kr) jF jN r:=(kM n).2.2.2.2.2.2.2.2.1
def ag1: ∀(o0:jG)(r:T8),nY n o0=some r->SP fQ 241 (lm 0 kr) jF ((o0,()),()) () true jF (kP (lF Syntax.ky) kr) jF jN r:=(kM n).2.2.2.2.2.2.2.2.2.1
def afy: ∀(a0:Syntax)(o0:jG)(r:T8),nL n a0 o0=some r->SP fQ 258 (lm 0 (kP (lF Syntax.ky) kr)) jF ((o0,()),()) (a0,()) true jF (kP (lF Syntax.ky) kr) jF jN r:=(kM n).2.2.2.2.2.2.2.2.2.2.1
def ahy: ∀(o0:jG)(o1:Syntax)(r:Ta),pL n o0 o1=some r->SP fQ 259 (lm 0 (lm 1 kr)) ko ((o0,()),(o1,()),()) () true ko kr ko jN r:=(kM n).2.2.2.2.2.2.2.2.2.2.2.1
def aeF: ∀(o0:jG)(r:Tt),ni n o0=some r->SP fQ 269 (lm 0 kr) jF ((o0,()),()) () true jF (kP (l5 Syntax.row) kr) jF jN r:=(kM n).2.2.2.2.2.2.2.2.2.2.2.2.1
def aaP: ∀(o0:jG)(r:T8),mm n o0=some r->SP fQ 275 (lm 0 kr) jF ((o0,()),()) () true jF (kP (lF Syntax.ky) kr) jF jN r:=(kM n).2.2.2.2.2.2.2.2.2.2.2.2.2.1
def afz: ∀(o0:jG)(r:T8),kK n o0=some r->SP fQ 282 (lm 0 kr) jF ((o0,()),()) () true jF (kP (lF Syntax.ky) kr) jF jN r:=(kM n).2.2.2.2.2.2.2.2.2.2.2.2.2.2.1
def ag2: ∀(o0:jG)(o1:Syntax)(r:Ta),nZ n o0 o1=some r->SP fQ 290 (lm 0 (lm 1 kr)) ko ((o0,()),(o1,()),()) () true ko kr ko jN r:=(kM n).2.2.2.2.2.2.2.2.2.2.2.2.2.2.2.1
def ag3: ∀(o0:jG)(o1:Syntax)(r:Ta),oU n o0 o1=some r->SP fQ 291 (lm 0 (lm 1 kr)) ko ((o0,()),(o1,()),()) () true ko kr ko jN r:=(kM n).2.2.2.2.2.2.2.2.2.2.2.2.2.2.2.2.1
def aeG: ∀(a0:Syntax)(a1:Tm)(a2:Str)(o0:jG)(r:T8),nj n a0 a1 a2 o0=some r->SP fQ 77 pS jF ((o0,()),()) (a0,a1,a2,()) true jF (kP (lF Syntax.ky) kr) jF jN r:=(kM n).2.2.2.2.2.2.2.2.2.2.2.2.2.2.2.2.2
open Go.Proofs
@[reducible] def W9:kD TH:=ol fQ f14 n (at7 (KQ [(31,GU [.arg 0 [],.arg 1 [],.arg 2 []] jZ (lm 0 (lm 1 (lm 2 kr))) jZ kr (fun(b:Tl)(a:Unit)=>(tO n) b.1.1 b.2.1.1 b.2.2.1.1))]) (KQ [(31,GU [.arg 0 [],.arg 1 [],.arg 2 []] jZ td jZ kr (fun(b:Tl)(a:Tc)=>(qB n) a.1 b.1.1 b.2.1.1 b.2.2.1.1))]) fQ [.cell 4 29,.cell 5 3,.cell 6 30] (Yk (lF Syntax.ky) (lO .i64) (lO .i64))) (nB:=anm (KQ [(31,GU [.arg 0 [],.arg 1 [],.arg 2 []] jZ (lm 0 (lm 1 (lm 2 kr))) jZ kr (fun(b:Tl)(a:Unit)=>(tO n) b.1.1 b.2.1.1 b.2.2.1.1))]) (KQ [(31,GU [.arg 0 [],.arg 1 [],.arg 2 []] jZ td jZ kr (fun(b:Tl)(a:Tc)=>(qB n) a.1 b.1.1 b.2.1.1 b.2.2.1.1))]) fQ [.cell 4 29,.cell 5 3,.cell 6 30] (Yk (lF Syntax.ky) (lO .i64) (lO .i64))) (cp:=wP [(33,Lx (vS n)),(34,lC (kg n)),(35,Gp (uu n))]) (wL:=lV [33,34,35])
def NX:{B:Str->(List jH)->Option TH // ∀(a0:Str)(a1:(List jH)),run (W9 n) [.at []] (xI [lP.enc a0,(l5 jH.row).enc a1] 23)=B a0 a1}:=pu
def xD:=fu fun n=>(NX n).1
def zH: ∀(n:Nat)(a0:Str)(a1:(List jH))(r:TH),xD n a0 a1=some r->GP fQ 14 [lP.enc a0,(l5 jH.row).enc a1] (fun v=>v=(Yk (lF Syntax.ky) (lO .i64) (lO .i64)).enc r)
 |0,_,_,_,h=>by cases h
 |n+1,a0,a1,r,h=>by
  exact aje (M:=W9 n) (t:=(Yk (lF Syntax.ky) (lO .i64) (lO .i64))) (cr:=(KQ [(31,GU [.arg 0 [],.arg 1 [],.arg 2 []] jZ (lm 0 (lm 1 (lm 2 kr))) jZ kr (fun(b:Tl)(a:Unit)=>(tO n) b.1.1 b.2.1.1 b.2.2.1.1))])) (cp:=(KQ [(31,GU [.arg 0 [],.arg 1 [],.arg 2 []] jZ td jZ kr (fun(b:Tl)(a:Tc)=>(qB n) a.1 b.1.1 b.2.1.1 b.2.2.1.1))])) ⟨jQ,jR,qg _,qy _,uh,uj,(jX (kw (Wl n)) (jX (kw (fun b a r h=>(Sz n) b.1.1 r h)) (jX (kw (O2 n)) kR))),u1⟩ (FM (Ol ZH (fun _ _ _ _=>rfl) (jE) (fun b a r h=>(V2 n) b.1.1 b.2.1.1 b.2.2.1.1 r h)) IK) (FM (Ol ZI (fun _ _ _ _=>rfl) (jE) (fun b a r h=>(Wa n) a.1 b.1.1 b.2.1.1 b.2.2.1.1 r h)) IK) func14 rfl rfl ⟨lP.nb 0 _,(l5 jH.row).nb 0 _,trivial⟩ ntmps14 results14 rfl rfl (((NX n).2 a0 a1).trans h)
open Go.Proofs
@[reducible] def aeH:kD Bool:=ol fQ f13 n (nE fQ [.tmp 0] my) (cl:=nk [(14,rI lP (l5 jH.row) (Yk (lF Syntax.ky) (lO .i64) (lO .i64)) (xD n))])
def Xa:{B:Option Bool // run (aeH n) [.at []] (xI ([]:List AV) 133)=B}:=mB
def vR:=fu fun n=>(Xa n).1
def CB:zO fQ 13 kr my (fun n a=>vR n):=fC fun n a r h nb=>AQ ((Xa n).2.trans h) (gd (jL (nA (zH n)) jQ) jR) func13 nb ntmps13 results13
open Go.Proofs
@[reducible] def Vd:kD Bool:=ol fQ f4 n (nE fQ [.tmp 4] my) (cl:=nk [(12,mW (l5 jH.row) my (HV n)),(13,Ym my (vR n)),(14,rI lP (l5 jH.row) (Yk (lF Syntax.ky) (lO .i64) (lO .i64)) (xD n)),(17,mW (lF Syntax.ky) my (xd n))])
def CC:{B:Str->(List jH)->Option Bool // ∀(a0:Str)(a1:(List jH)),run (Vd n) [.at []] (xI [lP.enc a0,(l5 jH.row).enc a1] 45)=B a0 a1}:=mB
def EL:=fu fun n=>(CC n).1
def ahz:zO fQ 4 (kP lP (kP (l5 jH.row) kr)) my (fun n a=>EL n a.1 a.2.1):=fC fun n a r h nb=>AQ (((CC n).2 _ _).trans h) (gd (jL (lg (c1 Kq n)) (jL (Mk (c0 CB n)) (jL (nA (zH n)) (jL (lg (Rq n)) jQ)))) jR) func4 nb ntmps4 results4
@[reducible] def Ve:kD Bool:=ol fQ f6 n (nE fQ [.tmp 4] my) (cl:=nk [(12,mW (l5 jH.row) my (HV n)),(13,Ym my (vR n)),(14,rI lP (l5 jH.row) (Yk (lF Syntax.ky) (lO .i64) (lO .i64)) (xD n)),(19,rI (lF Syntax.ky) (lF Syntax.ky) my (pz n))])
def CD:{B:Str->(List jH)->Option Bool // ∀(a0:Str)(a1:(List jH)),run (Ve n) [.at []] (xI [lP.enc a0,(l5 jH.row).enc a1] 89)=B a0 a1}:=mB
def EM:=fu fun n=>(CD n).1
def ahA:zO fQ 6 (kP lP (kP (l5 jH.row) kr)) my (fun n a=>EM n a.1 a.2.1):=fC fun n a r h nb=>AQ (((CD n).2 _ _).trans h) (gd (jL (lg (c1 Kq n)) (jL (Mk (c0 CB n)) (jL (nA (zH n)) (jL (nA (Lp n)) jQ)))) jR) func6 nb ntmps6 results6
@[reducible] def CE:kD Bool:=ol fQ f7 n (nE fQ [.tmp 6] my) (cl:=nk [(12,mW (l5 jH.row) my (HV n)),(13,Ym my (vR n)),(14,rI lP (l5 jH.row) (Yk (lF Syntax.ky) (lO .i64) (lO .i64)) (xD n)),(19,rI (lF Syntax.ky) (lF Syntax.ky) my (pz n)),(21,rI lP (l5 l6) (Yk (l5 j8.row) (lO .i64) (lO .i64)) (Lv n)),(22,mW (l5 jH.row) (l5 l6) (D3 n))]) (cd:=KO [(14,pU (rI lP (l5 jH.row) (Yk (lF Syntax.ky) (lO .i64) (lO .i64)) (xD n)))]) (yb:=lV []) (yd:=lV [])
@[go_sem]def Vf:tw (CE n) [0,1,1,1,1,1,1]=true:=jE
@[go_sem]def Vg:aoS (CE n) [0,1,1,1,1,1,1] 2 15 6 15 14 15:=⟨jE,jE,jE⟩
def CF:{B:Str->(List jH)->Int->Option Bool // ∀(a0:Str)(a1:(List jH))(a2:Int),run (CE n) [.at []] (xI [lP.enc a0,(l5 jH.row).enc a1,(lO .u8).enc a2] 86)=B a0 a1 a2}:=mB
def EN:=fu fun n=>(CF n).1
def ahB:zO fQ 7 (kP lP (kP (l5 jH.row) (kP (lO .u8) kr))) my (fun n a=>EN n a.1 a.2.1 a.2.2.1):=fC fun n a r h nb=>AQ (((CF n).2 _ _ _).trans h) (gd (jL (lg (c1 Kq n)) (jL (Mk (c0 CB n)) (jL (nA (zH n)) (jL (nA (Lp n)) (jL (nA (c2 aeD n)) (jL (lg (c1 Z8 n)) jQ)))))) (nP (ui (zH n)) jR)) func7 nb ntmps7 results7
@[reducible] def Jm:kD Bool:=ol fQ f8 n (nE fQ [.tmp 6] my) (cl:=nk [(12,mW (l5 jH.row) my (HV n)),(13,Ym my (vR n)),(14,rI lP (l5 jH.row) (Yk (lF Syntax.ky) (lO .i64) (lO .i64)) (xD n))]) (cd:=KO [(13,pU (Ym my (vR n))),(19,pU (rI (lF Syntax.ky) (lF Syntax.ky) my (pz n)))]) (yb:=lV []) (yd:=lV [])
@[go_sem]def Vh:tw (Jm n) [0,1,1,1,1,1,1,1]=true:=jE
def CG:{B:Str->Str->(List jH)->Option Bool // ∀(a0:Str)(a1:Str)(a2:(List jH)),run (Jm n) [.at []] (xI [lP.enc a0,lP.enc a1,(l5 jH.row).enc a2] 107)=B a0 a1 a2}:=mB
def EO:=fu fun n=>(CG n).1
def ahC:zO fQ 8 (kP lP (kP lP (kP (l5 jH.row) kr))) my (fun n a=>EO n a.1 a.2.1 a.2.2.1):=fC fun n a r h nb=>AQ (((CG n).2 _ _ _).trans h) (gd (jL (lg (c1 Kq n)) (jL (Mk (c0 CB n)) (jL (nA (zH n)) jQ))) (nP (aqs (c0 CB n)) (nP (ui (Lp n)) jR))) func8 nb ntmps8 results8
end Go.Abs
end
