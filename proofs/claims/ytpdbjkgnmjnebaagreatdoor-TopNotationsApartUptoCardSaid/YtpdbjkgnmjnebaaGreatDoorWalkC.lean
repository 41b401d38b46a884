/- A part of the proof: what the functions compute. -/
import Derived.Test.YtpdbjkgnmjnebaaGreatDoorDataA
import Derived.Test.YtpdbjkgnmjnebaaGreatDoorWalkA
import Derived.Test.YtpdbjkgnmjnebaaGreatDoorWalkB
import Derived.Test.YtpdbjkgnmjnebaaGreatDoorExtA
set_option linter.all false
open Go.Proofs.Tryz renaming prog→gh
open Go.Abs.AV renaming any→qA
noncomputable section
open Go.Proofs.Tryz
namespace Go.Abs
variable {m:Nat}
variable (n:Nat)
open Go.Proofs
attribute [go_sem] f7 f43 f331 f328 f35 f330 f212 f9 f232 f325 f69 f188 f44 f86 f87 f92 f156 f211 f250 f282 f304 f319 f320 f329 f334 f338 f347 f348 f89 f71 f132 f133 f134 f189 f233 f13
set_option maxRecDepth 100000
set_option maxHeartbeats 4000000
@[reducible] def aor:kG Bool:=oN gh f7 n (oB gh [.tmp 2] nD) (cl:=nE [(29,oI (l8 jI.row) nD (S8 n)),(30,tj (l8 jI.row) (tyF 31) nD (sr n))])
def Yv:RM (aor n) (l8 jI.row) 15:=mB
def Yw:=fu fun n=>(Yv n).1
def alX:∀n:Nat,Ap gh 7 (l8 jI.row) nD (Yw n):=BO fun n=>Bk (Yv n) (gd (jL (lK (ako n)) (jL (nT (Dd n)) jP)) jQ) func7 ntmps7 results7
@[go_sem]def Cu:=(lw mq (lw (mP .i64) (lw (mP .i64) (lw (l8 jI.row) kr))))
@[go_sem]abbrev Et(F:Str->Int->Int->(List jI)->Option T11)(b:Unit)(a:(Str×(Int×(Int×TD)))):=F a.1 a.2.1 a.2.2.1 a.2.2.2.1
@[go_sem]def Ri(F:Str->Int->Int->(List jI)->Option T11):=xd true [] Du Cu jG (lH 0 kr) Du jO (Et F)
@[reducible] def aez:kG T11:=oN gh f43 n (qE gh [.tmp 8] [.arg 0 []] [] 0 jG (lH 0 kr)) (cl:=nE [(55,oI (l8 jI.row) (l8 mc) (Ac n))]) (pP:=qF [] [] 0 Du jO) (cp:=Ao [(81,Rh (Hw n))]) (xb:=mE [81])
def Eu:SX (aez n) Cu Du 21 Et:=AZ
def Ad:=fu fun n=>(Eu n).1
def ac8:∀n:Nat,tu gh 43 Cu Du true jG (lH 0 kr) Du jO (Et (Ad n)):=XK fun n=>DV (Eu n) (gd (jL (lK (Pt n)) jP) jQ (p:=(j7 (kB (ac7 n)) lc))) func43 ntmps43 results43
@[go_sem]def nC:=(zh (KI (alA 2 kr)) (zh (KI (lH 3 kr)) (zh (ogA true jN.row) (zh (KI (alC jH.kv 6 kr)) Du))))
@[go_sem]abbrev xQ(F:Tg->jH->Option TE)(b:(Unit×(Unit×(Tg×T6))))(a:Unit):=F b.2.2.1 b.2.2.2.1.1
@[go_sem]def IZ(F:Tg->jH->Option TE):=xd true [.arg 0 [],.arg 1 [],.zi 0 0 [],.zi 1 0 []] nC (lH 0 (lH 1 kr)) nC kr nC jO (xQ F)
@[reducible] def pZ:kG TE:=oN gh f331 n (qE gh [] [] [0,1,2,3] 4 nC kr) (pP:=qF [] [0,1,2,3] 4 nC jO) (co:=PY [(332,HB [.arg 0 []] jG (lH 0 kr) jG (lw (lD jN.kv) kr) jG jO (sL (za n)))]) (xy:=mE [332]) (xF:=mE [])
def Vi:wV (pZ n) []=true:=jF
def Vj:Fj (pZ n) [] 1 2 0 4 1 4 2 4/\Fj (pZ n) [] 0 5 1 5 2 5 4 5:=⟨⟨jF,jF,jF,jF⟩,jF,jF,jF,jF⟩
def Vk:L2 (pZ n) [] 2 3=true/\L2 (pZ n) [] 2 4=true/\L2 (pZ n) [] 2 5=true/\Un (pZ n) [] 2=false:=⟨jF,jF,jF,jF⟩
attribute [go_sem] Vi Vj Vk
def B7:SX (pZ n) (lH 0 (lH 1 kr)) nC 7 xQ:=AZ
def Ew:=fu fun n=>(B7 n).1
def R7:∀n:Nat,tu gh 331 (lH 0 (lH 1 kr)) nC true nC kr nC jO (xQ (Ew n)):=XK fun n=>DV (B7 n) (gd jP jQ (c:=(ng (An (Ls n)) tz))) func331 ntmps331 results331
@[reducible] def ac9:kG TH:=oN gh f328 n (qE gh [.cell 2 112] [] [0] 1 jG (lw (lD jN.kv) kr)) (cl:=nE [(88,Bh [0] (wh (Am jH.kv) uA) (RD 0 LZ) (wh (Am jH.kv) uA) (Qw mq Jl) (fun(b:Te) a=>(kL n) b.1)),(94,Dx (rq (oI (Ch jH.kv) (lD kF.kv) (lT n)))),(153,Bh [0] (wh (Am jH.kv) uA) (RD 0 (asT mq LZ)) (wh (Am jH.kv) uA) (Qw nD Jl) (fun(b:Te) a=>(lF n) b.1 a.1)),(207,Dx (rq (oI (Ch jH.kv) nD (vp n))))]) (pP:=qF [] [0] 1 jG jO) (cp:=Ao [(151,oZ (mA n)),(327,zN (rL n)),(332,FA (za n))]) (xb:=mE [151,327,332])
def Ii:SX (ac9 n) (lH 0 kr) jG 47 sL:=AZ
def F5:=fu fun n=>(Ii n).1
def abF:∀n:Nat,tu gh 328 (lH 0 kr) jG true jG (lw (lD jN.kv) kr) jG jO (sL (F5 n)):=XK fun n=>DV (Ii n) (gd (jL (pQ (fun b a r h=>(lE n) b.1 r h)) (jL (qd (mV (lW n))) (jL (pQ (fun b a r h=>(mi n) b.1 a.1 r h)) (jL (qd (mV (C1 n))) jP)))) jQ (p:=(j7 (kB (pF n)) (j7 (kB (Dg n)) (j7 (kB (Ls n)) lc))))) func328 ntmps328 results328
@[go_sem]def PN:Af:=⟨[],[],(nj (zK::zA::zA::zA::zT (l8 jI.row)::zK::zK::nj (nj (zA::[])))),[oC [zK,zK,zK,zK],oM (lD jI.kv),oM (lD jI.kv),oK],none,none⟩
@[go_sem]def Cv:=(alK (.sO (.pointer none)) aDi (alK (.bool false) au9 kr))
@[go_sem]abbrev Ey(F:(List jI)->Option TP)(b:Unit)(a:TD):=F a.1
@[go_sem]def Ez(F:(List jI)->Option TP):=xd false [] Du (lw (l8 jI.row) kr) Du Cv kS (lH 0 (alK (.bool true) au9 kr)) (Ey F)
@[reducible] def Rj:kG TP:=oN gh f35 n (afl gh [.tmp 2,.tmp 3] [] [] 0 Du Cv [.arg 0 [],.zi 0 0 [],.zi 0 1 [],.zi 0 2 []] kS (lH 0 (alK (.bool true) au9 kr))) (cl:=nE [(36,GV (AA n)),(75,Pu (FP n))]) (tv:=sj [([0,1,0,1,1],PN)])
@[go_sem]abbrev PO(v0:List jI)(v1 v2 v3:Int)(r1 r2:List (Str×jI))(r3:List (Str×Bool)):jJ:=⟨(nN (.ptr 0 0::qA::qA::qA::.kW false 4 (mp jI.cells v0)::.int .i64 v1::.int .i64 v2::nN (nN (qA::[])))),[.cells [.map 1,.map 2,.map 3,.int .i64 v3],.map (mp (M7 (lD jI.kv)) r1),.map (mp (M7 (lD jI.kv)) r2),.map (mp He r3)],0,[]⟩
abbrev PP:=(List jI)->Int->Int->Int->Ta->Ta->Tb->Option TP
abbrev ada(K:List Kt)(Z:PP):Prop:=∀v0 v1 v2 v3 r1 r2 r3,run (Rj n) K (PO v0 v1 v2 v3 r1 r2 r3)=Z v0 v1 v2 v3 r1 r2 r3
def zb:LB (ada n) [0,1,0,1,1] [.tX 0,.cut [1,1,1],.at [1,1,1]]:=mB
def zc:Nat->PP:=AU ((zb n).1)
def MJ{n:Nat}:zc n (m+1)=(zb n).1 (zc n m):=rfl
@[go_sem]def Yx(m:Nat):=Dv (zb n) (zc n) m
def Jw:SX (Rj n) (lw (l8 jI.row) kr) Du 20 Ey:=mC
def Ae:=fu fun n=>(Jw n).1
def Ij:∀n:Nat,tu gh 35 (lw (l8 jI.row) kr) Du false Du Cv kS (lH 0 (alK (.bool true) au9 kr)) (Ey (Ae n)):=XK fun n=>aGT (Jw n) (gd (jL (mS (MI n)) (jL (mS (aa0 n)) jP)) jQ) func35 ntmps35 results35
open Go.Proofs
@[go_sem]def uR:Af:=⟨[],[],(zK::zK::zA::zA::zK::nj (nj (zA::zA::[]))),[oT jH.kv,oC [zK],oC [zK],oA jN.row],none,none⟩
@[go_sem]def oU:=(lH 0 (alF 331 (vlP 1 (vlP 2 vlN)) kr))
@[go_sem]def kJ:=(zh (KI (alC jH.kv 6 kr)) (zh (KI (alA 3 kr)) (zh (KI (lH 0 kr)) (zh (ogA true jN.row) Du))))
@[go_sem]abbrev pe(F:jH->Tg->Option Tw)(b:(Te×(Unit×(Unit×(Tg×Unit)))))(a:(Unit×Unit)):=F b.1.1 b.2.2.2.1
@[go_sem]def vc(F:jH->Tg->Option Tw):=xd true [.arg 0 [],.arg 1 [0],.arg 1 [1],.zi 1 0 []] kJ oU kJ kr kJ jO (pe F)
@[reducible] def ve:kG Tw:=oN gh f330 n (qE gh [] [] [0,1,2,3] 4 kJ kr) (cl:=nE [(153,Bh [0] (wh (Am jH.kv) uA) (RD 0 (asT mq LZ)) (wh (Am jH.kv) uA) (Qw nD Jl) (fun(b:Te) a=>(lF n) b.1 a.1))]) (tv:=sj [([0,1],uR)]) (pP:=qF [] [0,1,2,3] 4 kJ jO) (cp:=Ao [(82,lj (k8 n)),(331,IZ (Ew n))]) (xb:=mE [82,331])
@[go_sem]abbrev uS(v0:Int)(o0:jH)(r3:List jN)(c3:Nat):jJ:=⟨(.ptr 0 0::.func (.func 331) [] [.ptr 1 0,.ptr 2 0]::qA::qA::.int .i64 v0::nN (nN (qA::qA::[]))),[.cells (jH.cells o0),.cells [.lN 3 c3],.cells [.ptr 0 0],.lN true 2 (mp jN.cells r3)],4,[]⟩
abbrev uT:=Int->jH->Tg->Option Tw
abbrev B8(K:List Kt)(Z:uT):Prop:=∀v0 o0 r3 c3,c3=r3.length->run (ve n) K (uS v0 o0 r3 c3)=Z v0 o0 r3
def mX:LB (B8 n) [0,1] [.tX 0]:=EH
def mY:Nat->uT:=AU ((mX n).1)
def ut{n:Nat}:mY n (m+1)=(mX n).1 (mY n m):=rfl
@[go_sem]def AW(m:Nat):=Dv (mX n) (mY n) m
def qQ:SX (ve n) oU kJ 15 pe:=AZ
def rG:=fu fun n=>(qQ n).1
def B9:∀n:Nat,tu gh 330 oU kJ true kJ kr kJ jO (pe (rG n)):=XK fun n=>DV (qQ n) (gd (jL (pQ (fun b a r h=>(mi n) b.1 a.1 r h)) jP) jQ (p:=(j7 (kB (mH n)) (j7 (kB (R7 n)) lc)))) func330 ntmps330 results330
@[reducible] def WH:kG TO:=oN gh f212 n (aBP (Qy [(251,Mc [.arg 0 [],.arg 1 [],.arg 2 [],.arg 3 [],.zi 0 0 [],.zi 4 0 [],.zi 5 0 [],.zi 5 1 [],.zi 5 2 []] j6 (lH 0 (lH 1 (lH 2 (lH 3 kr)))) j6 kr (fun(b:Th)(a:Unit)=>(yT n) b.2.1.1 b.2.2.1.1 b.2.2.2.1.1 b.2.2.2.2.1.1 b.2.2.2.2.1.2.1 b.2.2.2.2.2.1.1 b.2.2.2.2.2.2.1 b.2.2.2.2.2.2.2.1 b.2.2.2.2.2.2.2.2.1))]) (Qy [(251,Mc [.arg 0 [],.arg 1 [],.arg 2 [],.arg 3 [],.zi 0 0 [],.zi 4 0 [],.zi 5 0 [],.zi 5 1 [],.zi 5 2 []] j6 tY j6 kr (fun(b:Th)(a:(Unit×Unit))=>(wP n) a.1 b.2.1.1 b.2.2.1.1 b.2.2.2.1.1 b.2.2.2.2.1.1 b.2.2.2.2.1.2.1 b.2.2.2.2.2.1.1 b.2.2.2.2.2.2.1 b.2.2.2.2.2.2.2.1 b.2.2.2.2.2.2.2.2.1))]) gh [.cell 4 37,.cell 5 3,.cell 6 28] (ty3 (lD Syntax.kv) (mP .i64) (mP .i64))) (pP:=au5 (Qy [(251,Mc [.arg 0 [],.arg 1 [],.arg 2 [],.arg 3 [],.zi 0 0 [],.zi 4 0 [],.zi 5 0 [],.zi 5 1 [],.zi 5 2 []] j6 (lH 0 (lH 1 (lH 2 (lH 3 kr)))) j6 kr (fun(b:Th)(a:Unit)=>(yT n) b.2.1.1 b.2.2.1.1 b.2.2.2.1.1 b.2.2.2.2.1.1 b.2.2.2.2.1.2.1 b.2.2.2.2.2.1.1 b.2.2.2.2.2.2.1 b.2.2.2.2.2.2.2.1 b.2.2.2.2.2.2.2.2.1))]) (Qy [(251,Mc [.arg 0 [],.arg 1 [],.arg 2 [],.arg 3 [],.zi 0 0 [],.zi 4 0 [],.zi 5 0 [],.zi 5 1 [],.zi 5 2 []] j6 tY j6 kr (fun(b:Th)(a:(Unit×Unit))=>(wP n) a.1 b.2.1.1 b.2.2.1.1 b.2.2.2.1.1 b.2.2.2.2.1.1 b.2.2.2.2.1.2.1 b.2.2.2.2.2.1.1 b.2.2.2.2.2.2.1 b.2.2.2.2.2.2.2.1 b.2.2.2.2.2.2.2.2.1))]) gh [.cell 4 37,.cell 5 3,.cell 6 28] (ty3 (lD Syntax.kv) (mP .i64) (mP .i64))) (cp:=Ao [(35,Ez (Ae n)),(252,zE (nG n))]) (xb:=mE [35,252])
def Np:{B:(List jI)->(List Syntax)->Option TO //∀(a0:(List jI))(a1:(List Syntax)),run (WH n) [.at []] (ini [(l8 jI.row).enc a0,(l8 Syntax.row).enc a1] 42)=B a0 a1}:=EH
def wI:=fu fun n=>(Np n).1
def afQ:∀(n:Nat)(a0:(List jI))(a1:(List Syntax))(r:TO),wI n a0 a1=some r->KD gh 212 [(l8 jI.row).enc a0,(l8 Syntax.row).enc a1] (fun v=>v=(ty3 (lD Syntax.kv) (mP .i64) (mP .i64)).enc r)
 |0,_,_,_,h=>by cases h
 |n+1,a0,a1,r,h=>by
  exact aqG (M:=WH n) (t:=(ty3 (lD Syntax.kv) (mP .i64) (mP .i64))) (cr:=(Qy [(251,Mc [.arg 0 [],.arg 1 [],.arg 2 [],.arg 3 [],.zi 0 0 [],.zi 4 0 [],.zi 5 0 [],.zi 5 1 [],.zi 5 2 []] j6 (lH 0 (lH 1 (lH 2 (lH 3 kr)))) j6 kr (fun(b:Th)(a:Unit)=>(yT n) b.2.1.1 b.2.2.1.1 b.2.2.2.1.1 b.2.2.2.2.1.1 b.2.2.2.2.1.2.1 b.2.2.2.2.2.1.1 b.2.2.2.2.2.2.1 b.2.2.2.2.2.2.2.1 b.2.2.2.2.2.2.2.2.1))])) (cp:=(Qy [(251,Mc [.arg 0 [],.arg 1 [],.arg 2 [],.arg 3 [],.zi 0 0 [],.zi 4 0 [],.zi 5 0 [],.zi 5 1 [],.zi 5 2 []] j6 tY j6 kr (fun(b:Th)(a:(Unit×Unit))=>(wP n) a.1 b.2.1.1 b.2.2.1.1 b.2.2.2.1.1 b.2.2.2.2.1.1 b.2.2.2.2.1.2.1 b.2.2.2.2.2.1.1 b.2.2.2.2.2.2.1 b.2.2.2.2.2.2.2.1 b.2.2.2.2.2.2.2.2.1))])) ⟨jP,jQ,qI _,rz _,uK,uM,(j7 (kB (Ij n)) (j7 (kB (Wt n)) lc)),vg⟩ (KJ (VM agn (fun _ _ _ _=>rfl) (jF) (fun b a r h=>(XU n) b.2.1.1 b.2.2.1.1 b.2.2.2.1.1 b.2.2.2.2.1.1 b.2.2.2.2.1.2.1 b.2.2.2.2.2.1.1 b.2.2.2.2.2.2.1 b.2.2.2.2.2.2.2.1 b.2.2.2.2.2.2.2.2.1 r h)) N3) (KJ (VM ago (fun _ _ _ _=>rfl) (jF) (fun b a r h=>(XV n) a.1 b.2.1.1 b.2.2.1.1 b.2.2.2.1.1 b.2.2.2.2.1.1 b.2.2.2.2.1.2.1 b.2.2.2.2.2.1.1 b.2.2.2.2.2.2.1 b.2.2.2.2.2.2.2.1 b.2.2.2.2.2.2.2.2.1 r h)) N3) func212 rfl rfl ⟨(l8 jI.row).nb 0 _,(l8 Syntax.row).nb 0 _,trivial⟩ ntmps212 results212 rfl rfl (((Np n).2 a0 a1).trans h)
@[reducible] def Rk:kG ((List jI)×Int):=oN gh f9 n (oB gh [.tmp 4,.tmp 5] (ty2 (l8 jI.row) (mP .i64))) (cl:=nE [(36,GV (AA n)),(37,Bh [] uA (asT (l8 mc) LZ) (wh (oaT true mc) uA) (rsA 0 (fun(b:To)=>b.1.length) Jl) (fun(b:Unit) a=>(uD n) a.1))]) (cp:=Ao [(35,Ez (Ae n))]) (xb:=mE [35]) (xy:=mE []) (xF:=mE [38]) (ce:=atd [(38,awa (asT (l8 jI.row) LZ) (wh (oaT true jI.row) uA) (rsA 0 (fun(b:TD)=>b.1.length) Jl) (fun a=>(CX n) a.1))])
@[go_sem]def akp:wV (Rk n) [0,1,1,1,1,1]=true:=jF
@[go_sem]def akq:aqW (Rk n) [0,1,1,1,1,1] 1 4 2 4:=⟨jF,jF⟩
def Lv:SC2 (Rk n) (l8 jI.row) (lD jI.kv) 31:=EH
def Hx:=fu fun n=>(Lv n).1
def Zw:∀n:Nat,Fk gh 9 (l8 jI.row) (lD jI.kv) (ty2 (l8 jI.row) (mP .i64)) (Hx n):=Ks fun n=>Iz (Lv n) (gd (jL (mS (MI n)) (jL (pQ (fun b a r h=>(IE n) a.1 r h)) jP)) jQ (e:=(anZ (aBp (fun a=>⟨(l8 jI.row).nb 0 _,trivial⟩) (fun a r h=>(QL n) a.1 r h)) aqc)) (p:=(j7 (kB (Ij n)) lc))) func9 ntmps9 results9
def S9:Af:=⟨[],[],(zA::zA::zA::zK::nj (zK::nj (nj (nj (zA::zA::zA::zT (l8 jI.row)::zK::zK::nh (nj (nj (nj (zA::zA::[]))))))))),[oT Syntax.kv,oD,oD,oD,oD,oM (lD jI.kv),oC [zK]],none,none⟩
@[reducible] def Dl:kG ((List Syntax)×Int):=oN gh f232 n (oB gh [.tmp 4,.tmp 5] (ty2 (l8 Syntax.row) (mP .i64))) (cl:=nE [(268,amL 1 true 8 (B4 (zJ n)))]) (tv:=sj [([0,1,0,1,1,1],S9)]) (cp:=Ao [(35,Ez (Ae n))]) (xb:=mE [35]) (xy:=mE []) (xF:=mE [])
def agU:agz (Dl n) [0,1,0,0,1,1,0,0,1,0,1,1,1] [0,1,1,1,0,0,1,1,0,0,1,0,1,1,1]:=⟨jF,jF⟩
def agV:Fj (Dl n) [0,1,0,0,1,1,0,0,1,0,1,1,1] 3 11 5 11 6 11 10 11/\awD (Dl n) [0,1,1,1,0,0,1,1,0,0,1,0,1,1,1] 3 7 5 7 6 7:=⟨⟨jF,jF,jF,jF⟩,jF,jF,jF⟩
attribute [go_sem] agU agV S9
@[go_sem]abbrev Ua(v0:List jI)(v1 v2:Int)(o0:Syntax)(r5:List (Str×jI)):jJ:=⟨(qA::qA::qA::.ptr 0 0::nN (.ptr 6 0::nN (nN (nN (qA::qA::qA::.kW false 4 (mp jI.cells v0)::.int .i64 v1::.int .i64 v2::nu (nN (nN (nN (qA::qA::[]))))))))),[.cells (Syntax.cells o0),.xu,.xu,.xu,.xu,.map (mp (M7 (lD jI.kv)) r5),.cells [.map 5]],0,[]⟩
abbrev Ub:=(List jI)->Int->Int->Syntax->Ta->Option ((List Syntax)×Int)
abbrev afR(K:List Kt)(Z:Ub):Prop:=∀v0 v1 v2 o0 r5,run (Dl n) K (Ua v0 v1 v2 o0 r5)=Z v0 v1 v2 o0 r5
def Lw:LB (afR n) [0,1,0,1,1,1] [.tX 0,.cut [1,1,1,1],.at [1,1,1,1]]:=EH
def Lx:Nat->Ub:=AU ((Lw n).1)
def ar2{n:Nat}:Lx n (m+1)=(Lw n).1 (Lx n m):=rfl
@[go_sem]def abG(m:Nat):=Dv (Lw n) (Lx n) m
def WI:SC2 (Dl n) (l8 jI.row) (lD Syntax.kv) 57:=EH
def abH:=fu fun n=>(WI n).1
def afS:∀n:Nat,Fk gh 232 (l8 jI.row) (lD Syntax.kv) (ty2 (l8 Syntax.row) (mP .i64)) (abH n):=Ks fun n=>Iz (WI n) (gd (jL (ajI (mS (HT n))) jP) jQ (p:=(j7 (kB (Ij n)) lc))) func232 ntmps232 results232
open Go.Proofs
@[go_sem]abbrev zU(F:jH->Option TW)(b:T6)(a:Unit):=F b.1.1
@[go_sem]def Ly(F:jH->Option TW):=xd true [.arg 0 []] jG (lH 0 kr) jG (lw (l8 jN.row) kr) jG jO (zU F)
@[reducible] def Yy:kG TW:=oN gh f325 n (qE gh [.tmp 2] [] [0] 1 jG (lw (l8 jN.row) kr)) (cl:=nE [(153,Bh [0] (wh (Am jH.kv) uA) (RD 0 (asT mq LZ)) (wh (Am jH.kv) uA) (Qw nD Jl) (fun(b:Te) a=>(lF n) b.1 a.1))]) (cut:=amR [] [([1,1,1],2,0,2,true)]) (pP:=qF [] [0] 1 jG jO) (cp:=Ao [(151,oZ (mA n)),(330,vc (rG n))]) (xb:=mE [151,330])
def EA:SX (Yy n) (lH 0 kr) jG 19 zU:=AZ
def BG:=fu fun n=>(EA n).1
def WJ:∀n:Nat,tu gh 325 (lH 0 kr) jG true jG (lw (l8 jN.row) kr) jG jO (zU (BG n)):=XK fun n=>DV (EA n) (gdM (jL (pQ (fun b a r h=>(mi n) b.1 a.1 r h)) jP) jQ (p:=(j7 (kB (pF n)) (j7 (kB (B9 n)) lc)))) func325 ntmps325 results325
@[go_sem]def Rl:Af:=⟨[],[],(zA::zA::zA::zT (l8 jI.row)::nj (zT (l8 jI.row)::zK::zK::nj (nj (nj (zA::[]))))),[],none,none⟩
@[reducible] def Uc:kG Bool:=oN gh f69 n (oB gh [.tmp 2] nD) (cl:=nE [(9,tj (l8 jI.row) (lD jI.kv) (ty2 (l8 jI.row) (mP .i64)) (Hx n))]) (tv:=sj [([0,1,0,1,1],Rl)])
@[go_sem]abbrev Rm(v0 v1:List jI)(v2 v3:Int):jJ:=⟨(qA::qA::qA::.kW false 4 (mp jI.cells v0)::nN (.kW false 4 (mp jI.cells v1)::.int .i64 v2::.int .i64 v3::nN (nN (nN (qA::[]))))),[],0,[]⟩
abbrev Rn:=(List jI)->(List jI)->Int->Int->Option Bool
abbrev aeA(K:List Kt)(Z:Rn):Prop:=∀v0 v1 v2 v3,run (Uc n) K (Rm v0 v1 v2 v3)=Z v0 v1 v2 v3
def Jx:LB (aeA n) [0,1,0,1,1] [.tX 0,.cut [1,1,1],.at [1,1,1]]:=mB
def Jy:Nat->Rn:=AU ((Jx n).1)
def aq6{n:Nat}:Jy n (m+1)=(Jx n).1 (Jy n m):=rfl
@[go_sem]def Z1(m:Nat):=Dv (Jx n) (Jy n) m
def Ud:RM (Uc n) (l8 jI.row) 24:=mB
def Zx:=fu fun n=>(Ud n).1
def aeB:∀n:Nat,Ap gh 69 (l8 jI.row) nD (Zx n):=BO fun n=>Bk (Ud n) (gd (jL (nT (Zw n)) jP) jQ) func69 ntmps69 results69
@[go_sem]abbrev zV(F:Syntax->(List jI)->Bool->Str->Option (T9×TA))(b:T9)(a:(Syntax×Unit)):=F a.1 b.1.1 b.1.2.1 b.2.1
@[go_sem]def Lz(F:Syntax->(List jI)->Bool->Str->Option (T9×TA)):=Kr [.arg 0 [],.zi 0 1 []] jR (lH 0 (lw (lD Syntax.kv) kr)) jR (lw (l8 Syntax.row) (lw nD kr)) (zV F)
@[reducible] def LA:kG (T9×TA):=oN gh f188 n (xT gh [.tmp 4,.tmp 5] [] [0,1] 2 jR (lw (l8 Syntax.row) (lw nD kr))) (cd:=M5 [(232,rq (tj (l8 jI.row) (lD Syntax.kv) (ty2 (l8 Syntax.row) (mP .i64)) (abH n)))]) (xy:=mE []) (xF:=mE [])
@[go_sem]def Yz:agz (LA n) [0,1] [0,1,1,1]:=⟨jF,jF⟩
def LC:SX (LA n) (lH 0 (lw (lD Syntax.kv) kr)) jR 38 zV:=mC
def OD:=fu fun n=>(LC n).1
def WK:∀n:Nat,Bl gh 188 (lH 0 (lw (lD Syntax.kv) kr)) jR jR (lw (l8 Syntax.row) (lw nD kr)) (zV (OD n)):=VN fun n=>Jn (LC n) (gd jP (nf (wu (afS n)) jQ)) func188 ntmps188 results188
open Go.Proofs
@[go_sem]abbrev kE(F:jH->Option Td)(b:T6)(a:Unit):=F b.1.1
@[go_sem]def mD(F:jH->Option Td):=xd true [.arg 0 []] jG (lH 0 kr) jG (lw (lD Syntax.kv) kr) jG jO (kE F)
@[go_sem]abbrev pM(F:Int->jH->Option Td)(b:T6)(a:(Int×Unit)):=F a.1 b.1.1
@[go_sem]def Cw(F:Int->jH->Option Td):=xd true [.arg 0 []] jG (lH 0 (lw (mP .i64) kr)) jG (lw (lD Syntax.kv) kr) jG jO (pM F)
@[go_sem]abbrev ud(F:Str->Str->jH->Option Tu)(b:T6)(a:(Str×(Str×Unit))):=F a.1 a.2.1 b.1.1
@[go_sem]def LD(F:Str->Str->jH->Option Tu):=xd true [.arg 0 []] jG (lH 0 (lw mq (lw mq kr))) jG (lw (l8 jS.row) kr) jG jO (ud F)
@[go_sem]abbrev wJ(F:Syntax->jH->Option Td)(b:T6)(a:(Syntax×Unit)):=F a.1 b.1.1
@[go_sem]def LF(F:Syntax->jH->Option Td):=xd true [.arg 0 []] jG (lH 0 (lw (lD Syntax.kv) kr)) jG (lw (lD Syntax.kv) kr) jG jO (wJ F)
@[go_sem]def ku:=(zh (KI (alC jH.kv 6 kr)) (zh (KI (alC Syntax.kv 8 kr)) Du))
@[go_sem]abbrev o9(F:jH->Syntax->Option Tf)(b:(Te×((Syntax×Unit)×Unit)))(a:Unit):=F b.1.1 b.2.1.1
@[go_sem]def xZ(F:jH->Syntax->Option Tf):=xd true [.arg 0 [],.arg 1 []] ku (lH 0 (lH 1 kr)) ku kr ku jO (o9 F)
@[go_sem]abbrev vL(F:jH->Option TK)(b:T6)(a:Unit):=F b.1.1
@[go_sem]def Dm(F:jH->Option TK):=xd true [.arg 0 []] jG (lH 0 kr) jG (lw (l8 Syntax.row) kr) jG jO (vL F)
@[go_sem]def sE:=(lH 0 (lw (lD Syntax.kv) (lw (l8 jS.row) (lw mq kr))))
@[go_sem]abbrev td(F:Syntax->TB->Str->jH->Option Td)(b:T6)(a:(Syntax×(TB×(Str×Unit)))):=F a.1 a.2.1 a.2.2.1 b.1.1
@[go_sem]def WL(F:Syntax->TB->Str->jH->Option Td):=xd true [.arg 0 []] jG sE jG (lw (lD Syntax.kv) kr) jG jO (td F)
structure jM where
 kp:jH->Option Td
 sW:Int->jH->Option Td
 ow:Str->Str->jH->Option Tu
 sX:Int->jH->Option Td
 qX:Int->jH->Option Td
 rn:jH->Option Td
 pI:jH->Option Td
 rC:jH->Option Td
 p9:jH->Option Td
 qo:jH->Option Td
 p4:Syntax->jH->Option Td
 rW:jH->Syntax->Option Tf
 pG:jH->Option TK
 n5:jH->Option Td
 kU:jH->Option Td
 qq:jH->Syntax->Option Tf
 qY:jH->Syntax->Option Tf
 pH:Syntax->TB->Str->jH->Option Td
open Go.Proofs
@[reducible] def kV(X:jM)(n:Nat):kG Td:=oN gh f44 n (ajW (Qy [(83,Mc [.arg 0 [],.zi 0 0 []] kP (lH 0 kr) kP kr (fun(b:(Unit×T6))(a:Unit)=>(oH n) b.2.1.1))]) (qE gh [.cell 2 37] [] [0] 1 jG (lw (lD Syntax.kv) kr)) (qF [] [0] 1 jG jO)) (cl:=nE [(84,Dx (rq (oI (Ch jH.kv) (mP .i64) (p8 n)))),(85,Dx (rq (acL (Ch jH.kv) (mP .i64) mq nD (vo n)))),(88,Bh [0] (wh (Am jH.kv) uA) (RD 0 LZ) (wh (Am jH.kv) uA) (Qw mq Jl) (fun(b:Te) a=>(kL n) b.1)),(91,Dx (rq (tj (Ch jH.kv) mq nD (nF n))))]) (pP:=ajX (Qy [(83,Mc [.arg 0 [],.zi 0 0 []] kP (lH 0 kr) kP kr (fun(b:(Unit×T6))(a:Unit)=>(oH n) b.2.1.1))]) (qE gh [.cell 2 37] [] [0] 1 jG (lw (lD Syntax.kv) kr)) (qF [] [0] 1 jG jO)) (co:=PY [(82,HB [.arg 0 []] jG (lH 0 (lw (mP .i64) kr)) jG kr jG jO (pR (k8 n))),(89,HB [.arg 0 []] jG sE jG (lw (lD Syntax.kv) kr) jG jO (td X.pH)),(90,HB [.arg 0 []] jG (lH 0 (lw mq (lw mq kr))) jG (lw (l8 jS.row) kr) jG jO (ud X.ow))]) (cp:=Ao [(86,Cw X.sW),(87,Cw X.sX),(92,Cw X.qX)]) (xb:=mE [86,87,92]) (xy:=mE [82,89,90]) (xF:=mE [])
def abI(X:jM)(n:Nat):aB1 (kV X n) [0,0,1,1,1,1,1,1,1,0,0,1,1,1,1,1] [0,0,1,1,1,1,1,1,1,1,1,0,0,1,1,1,1,1] [0,1] [0,1,0,1,1,1,1,1,0,0,1,1,1,1,1]:=⟨jF,jF,jF,jF⟩
def abJ(X:jM)(n:Nat):Fj (kV X n) [0,0,1,1,1,1,1,1,1,0,0,1,1,1,1,1] 3 4 0 5 3 5 4 5/\Fj (kV X n) [0,0,1,1,1,1,1,1,1,0,0,1,1,1,1,1] 0 6 3 6 4 6 5 6/\Fj (kV X n) [0,0,1,1,1,1,1,1,1,1,1,0,0,1,1,1,1,1] 3 4 0 5 3 5 4 5/\Fj (kV X n) [0,0,1,1,1,1,1,1,1,1,1,0,0,1,1,1,1,1] 0 6 3 6 4 6 5 6/\awD (kV X n) [0,1] 0 7 3 7 6 7/\Fj (kV X n) [0,1,0,1,1,1,1,1,0,0,1,1,1,1,1] 3 4 0 5 3 5 4 5/\Fj (kV X n) [0,1,0,1,1,1,1,1,0,0,1,1,1,1,1] 0 6 3 6 4 6 5 6:=⟨⟨jF,jF,jF,jF⟩,⟨jF,jF,jF,jF⟩,⟨jF,jF,jF,jF⟩,⟨jF,jF,jF,jF⟩,⟨jF,jF,jF⟩,⟨jF,jF,jF,jF⟩,jF,jF,jF,jF⟩
def abK(X:jM)(n:Nat):L2 (kV X n) [0,0,1,1,1,1,1,1,1,0,0,1,1,1,1,1] 4 5=true/\L2 (kV X n) [0,0,1,1,1,1,1,1,1,0,0,1,1,1,1,1] 4 6=true/\L2 (kV X n) [0,0,1,1,1,1,1,1,1,1,1,0,0,1,1,1,1,1] 4 5=true/\L2 (kV X n) [0,0,1,1,1,1,1,1,1,1,1,0,0,1,1,1,1,1] 4 6=true/\L2 (kV X n) [0,1,0,1,1,1,1,1,0,0,1,1,1,1,1] 4 5=true/\L2 (kV X n) [0,1,0,1,1,1,1,1,0,0,1,1,1,1,1] 4 6=true/\Un (kV X n) [0,0,1,1,1,1,1,1,1,0,0,1,1,1,1,1] 4=false/\Un (kV X n) [0,0,1,1,1,1,1,1,1,0,0,1,1,1,1,1] 5=true/\Un (kV X n) [0,0,1,1,1,1,1,1,1,1,1,0,0,1,1,1,1,1] 4=false/\Un (kV X n) [0,0,1,1,1,1,1,1,1,1,1,0,0,1,1,1,1,1] 5=true/\Un (kV X n) [0,1] 7=true/\Un (kV X n) [0,1,0,1,1,1,1,1,0,0,1,1,1,1,1] 4=false/\Un (kV X n) [0,1,0,1,1,1,1,1,0,0,1,1,1,1,1] 5=true:=⟨jF,jF,jF,jF,jF,jF,jF,jF,jF,jF,jF,jF,jF⟩
attribute [go_sem] abI abJ abK
def x8(X:jM)(n:Nat):SX (kV X n) (lH 0 kr) jG 80 kE:=AZ
open Go.Proofs
@[go_sem]def OE:Af:=⟨[(5,9,true)],[],(zK::zK::zA::zA::zK::zK::zK::nh (nh (nh (zA::zA::[])))),[oT jH.kv,oK,oA jS.row],none,none⟩
@[reducible] def PQ(X:jM)(n:Nat):kG Td:=oN gh f86 n (qE gh [.cell 4 37] [] [0] 1 jG (lw (lD Syntax.kv) kr)) (cl:=nE [(88,Bh [0] (wh (Am jH.kv) uA) (RD 0 LZ) (wh (Am jH.kv) uA) (Qw mq Jl) (fun(b:Te) a=>(kL n) b.1)),(91,Dx (rq (tj (Ch jH.kv) mq nD (nF n)))),(150,Bh [0] (wh (Am jH.kv) uA) (RD 0 LZ) (wh (Am jH.kv) uA) (Qw (lD Syntax.kv) Jl) (fun(b:Te) a=>(xB n) b.1)),(152,acL (lD Syntax.kv) (l8 jS.row) (lD Syntax.kv) (lD Syntax.kv) (DI n))]) (tv:=sj [([0,1,0,1,1,1],OE)]) (pP:=qF [] [0] 1 jG jO) (cp:=Ao [(44,mD X.kp),(82,lj (k8 n)),(90,LD X.ow),(149,nW (pU n)),(151,oZ (mA n))]) (xb:=mE [44,82,90,149,151])
@[go_sem]abbrev OF(v0 v1:Int)(o0:jH)(r2:List jS)(c2:Nat):jJ:=⟨(.ptr 0 0::.int .i64 v0::qA::qA::.ptr 1 0::.lN 2 c2::.int .i64 v1::nu (nu (nu (qA::qA::[])))),[.cells (jH.cells o0),.cells [.int .i64 0,.str (sb []),.int .i64 0,.kW true 0 [],.kW true 0 [],.kW true 0 [],.int .i64 0,.int .i64 0],.lN true 9 (mp jS.cells r2)],1,[]⟩
abbrev OH:=Int->Int->jH->TB->Option Td
abbrev abL(X:jM)(n:Nat)(K:List Kt)(Z:OH):Prop:=∀v0 v1 o0 r2 c2,c2=r2.length->run (PQ X n) K (OF v0 v1 o0 r2 c2)=Z v0 v1 o0 r2
def x9(X:jM)(n:Nat):LB (abL X n) [0,1,0,1,1,1] [.tX 0,.cut [1,1,1,1],.at [1,1,1,1]]:=EH
def tL(X:jM)(n:Nat):Nat->OH:=AU ((x9 X n).1)
def LG(X:jM){n:Nat}:tL X n (m+1)=(x9 X n).1 (tL X n m):=rfl
@[go_sem]def WM(X:jM)(n:Nat)(m:Nat):=Dv (x9 X n) (tL X n) m
def Cy(X:jM)(n:Nat):SX (PQ X n) (lH 0 (lw (mP .i64) kr)) jG 57 pM:=AZ
open Go.Proofs
@[go_sem]def Kb:Af:=⟨[],[],(zK::zK::zK::nj (zK::nh (nh (nj (nj (nj (zA::zA::[]))))))),[oT jH.kv,oA mc],none,none⟩
@[go_sem]def I0:Af:=⟨[],[],(zK::zK::zK::nj (zL mc::nh (nh (nj (nj (nj (zA::zA::[]))))))),[oT jH.kv],(some 7),none⟩
@[reducible] def zW(X:jM)(n:Nat):kG Tu:=oN gh f90 n (qE gh [.tmp 6] [] [0] 1 jG (lw (l8 jS.row) kr)) (cl:=nE [(88,Bh [0] (wh (Am jH.kv) uA) (RD 0 LZ) (wh (Am jH.kv) uA) (Qw mq Jl) (fun(b:Te) a=>(kL n) b.1)),(154,Dx (rq (oI (Ch jH.kv) nD (sD n)))),(155,tj (l8 mc) (lD Syntax.kv) (l8 jS.row) (Hu n))]) (tv:=sj [([0,0,1,1,1],I0),([0,0,1,1,1],Kb)]) (pP:=qF [] [0] 1 jG jO) (cp:=Ao [(44,mD X.kp),(82,lj (k8 n)),(149,nW (pU n)),(151,oZ (mA n))]) (xb:=mE [44,82,149,151])
@[go_sem]abbrev Kc(v0 v1:Str)(o0:jH)(r1:List Str)(c1:Nat):jJ:=⟨(.ptr 0 0::.str (sb v0)::.str (sb v1)::nN (.lN 1 c1::nu (nu (nN (nN (nN (qA::qA::[]))))))),[.cells (jH.cells o0),.lN true 1 (mp nY r1)],1,[]⟩
abbrev Kd:=Str->Str->jH->(List Str)->Option Tu
abbrev WN(X:jM)(n:Nat)(K:List Kt)(Z:Kd):Prop:=∀v0 v1 o0 r1 c1,c1=r1.length->run (zW X n) K (Kc v0 v1 o0 r1 c1)=Z v0 v1 o0 r1
def vM(X:jM)(n:Nat):LB (WN X n) [0,0,1,1,1] [.tX 0,.cut [1,1,1,1],.at [1,1,1,1]]:=by
 apply Subtype.mk;intro m X0 ih v0 v1 o0 r1 c1 ec1;subst ec1;simp (config:={maxSteps:=100000000}) only[go_sem,Nat.reduceAdd,Nat.reduceSub,Nat.reduceLeDiff,Nat.reduceEqDiff,Nat.reduceBEq,Nat.reduceMul,Nat.reduceLT,Int.reduceLE,Int.reduceLT,Int.reduceToNat,Int.reduceBEq,Int.reduceEq,f90,Option.getD_some,mixed,ih];exact rfl
def yz(X:jM)(n:Nat):Nat->Kd:=AU ((vM X n).1)
def HW(X:jM){n:Nat}:yz X n (m+1)=(vM X n).1 (yz X n m):=rfl
def GX(X:jM)(n:Nat)(m:Nat):=Dv (vM X n) (yz X n) m
def xR(X:jM)(n:Nat):{B:Nat->Str->Str->(List Str)->jH->Option Tu //∀(m:Nat)(v0 v1:Str)(v2:List Str)(o0:jH),run (zW X n) [.at [0,0,0,1,1,1],.lp m [0,0,1,1,1],.tX 0,.cut [1,1,1,1],.at [1,1,1,1]] ⟨[.ptr 0 0,.str (sb v0),.str (sb v1),qA,qA,qA,qA,.kW true 1 (mp nY v2),qA,qA,qA,qA,qA,qA,qA,qA,qA,qA,qA,qA,qA,qA,qA,qA,qA,qA,qA,qA,qA,qA,qA,qA,qA,qA,qA,qA,qA,qA,qA,qA,qA,qA,qA,qA,qA,qA,qA,qA,qA,qA,qA,qA,qA,qA],[.cells (jH.cells o0)],1,[]⟩=B m v0 v1 v2 o0}:=by
 apply Subtype.mk;intro m v0 v1 v2 o0;simp (config:={maxSteps:=100000000}) only[go_sem,Nat.reduceAdd,Nat.reduceSub,Nat.reduceLeDiff,Nat.reduceEqDiff,Nat.reduceBEq,Nat.reduceMul,Nat.reduceLT,Int.reduceLE,Int.reduceLT,Int.reduceToNat,Int.reduceBEq,Int.reduceEq,f90,Option.getD_some,mixed,GX X n];exact rfl
def vN(X:jM)(n:Nat):Nat->Str->Str->(List Str)->jH->Option Tu
 |0,_,_,_,_=>none
 |m+1,v0,v1,v2,o0=>(xR X n).1 m v0 v1 v2 o0
def Ro(X:jM)(n:Nat):∀(m:Nat),(∀(v0 v1:Str)(v2:List Str)(o0:jH),run (zW X n) [.lq m [0,0,1,1,1],.tX 0,.cut [1,1,1,1],.at [1,1,1,1]] ⟨[.ptr 0 0,.str (sb v0),.str (sb v1),qA,qA,qA,qA,.kW true 1 (mp nY v2),qA,qA,qA,qA,qA,qA,qA,qA,qA,qA,qA,qA,qA,qA,qA,qA,qA,qA,qA,qA,qA,qA,qA,qA,qA,qA,qA,qA,qA,qA,qA,qA,qA,qA,qA,qA,qA,qA,qA,qA,qA,qA,qA,qA,qA,qA],[.cells (jH.cells o0)],1,[]⟩=vN X n m v0 v1 v2 o0)
 |0=>by intros;exact NY
 |m+1=>by
  intro v0 v1 v2 o0;rw[Gh];exact(xR X n).2 m v0 v1 v2 o0
def zX(X:jM)(n:Nat):SX (zW X n) (lH 0 (lw mq (lw mq kr))) jG 54 ud:=by
 apply Subtype.mk
 repeat (first|refine Prod.forall.2 ?_|intro)
 simp (config:={maxSteps:=100000000}) only[go_sem,Nat.reduceAdd,Nat.reduceSub,Nat.reduceLeDiff,Nat.reduceEqDiff,Nat.reduceBEq,Nat.reduceMul,Nat.reduceLT,Int.reduceLE,Int.reduceLT,Int.reduceToNat,Int.reduceBEq,Int.reduceEq,f90,Option.getD_some,mixed,GX X n,Ro X n];exact rfl
open Go.Proofs
@[reducible] def Cz(X:jM)(n:Nat):kG Td:=oN gh f87 n (qE gh [.cell 4 37] [] [0] 1 jG (lw (lD Syntax.kv) kr)) (cl:=nE [(88,Bh [0] (wh (Am jH.kv) uA) (RD 0 LZ) (wh (Am jH.kv) uA) (Qw mq Jl) (fun(b:Te) a=>(kL n) b.1)),(150,Bh [0] (wh (Am jH.kv) uA) (RD 0 LZ) (wh (Am jH.kv) uA) (Qw (lD Syntax.kv) Jl) (fun(b:Te) a=>(xB n) b.1)),(153,Bh [0] (wh (Am jH.kv) uA) (RD 0 (asT mq LZ)) (wh (Am jH.kv) uA) (Qw nD Jl) (fun(b:Te) a=>(lF n) b.1 a.1))]) (pP:=qF [] [0] 1 jG jO) (cp:=Ao [(44,mD X.kp),(149,nW (pU n)),(151,oZ (mA n))]) (xb:=mE [44,149,151]) (xy:=mE []) (xF:=mE [])
@[go_sem]def adb(X:jM)(n:Nat):wV (Cz X n) [0,1,1,1,1,1,1,1,1,1]=true:=jF
@[go_sem]def ade(X:jM)(n:Nat):Fj (Cz X n) [0,1,1,1,1,1,1,1,1,1] 0 7 1 7 2 7 0 9/\Fj (Cz X n) [0,1,1,1,1,1,1,1,1,1] 1 9 2 9 5 9 7 9:=⟨⟨jF,jF,jF,jF⟩,jF,jF,jF,jF⟩
def CA(X:jM)(n:Nat):SX (Cz X n) (lH 0 (lw (mP .i64) kr)) jG 48 pM:=AZ
open Go.Proofs
@[reducible] def uI(X:jM)(n:Nat):kG Td:=oN gh f92 n (qE gh [.cell 4 37] [] [0] 1 jG (lw (lD Syntax.kv) kr)) (cl:=nE [(153,Bh [0] (wh (Am jH.kv) uA) (RD 0 (asT mq LZ)) (wh (Am jH.kv) uA) (Qw nD Jl) (fun(b:Te) a=>(lF n) b.1 a.1)),(155,tj (l8 mc) (lD Syntax.kv) (l8 jS.row) (Hu n)),(157,Bh [0] (wh (Am jH.kv) uA) (RD 0 (asT (mP .i64) LZ)) (wh (Am jH.kv) uA) (Qw (l8 mc) Jl) (fun(b:Te) a=>(AG n) b.1 a.1))]) (cd:=M5 [(152,rq (acL (lD Syntax.kv) (l8 jS.row) (lD Syntax.kv) (lD Syntax.kv) (DI n)))]) (pP:=qF [] [0] 1 jG jO) (co:=PY [(44,HB [.arg 0 []] jG (lH 0 kr) jG (lw (lD Syntax.kv) kr) jG jO (kE X.kp))]) (cp:=Ao [(156,mD X.rn)]) (xb:=mE [156]) (xy:=mE [44]) (xF:=mE [])
def Z2(X:jM)(n:Nat):wV (uI X n) [0,1,1,1,1,1,1]=true:=jF
def Z3(X:jM)(n:Nat):aqW (uI X n) [0,1,1,1,1,1,1] 1 7 5 7:=⟨jF,jF⟩
def Z4(X:jM)(n:Nat):L2 (uI X n) [0,1,1,1,1,1,1] 5 6=true/\L2 (uI X n) [0,1,1,1,1,1,1] 5 7=true/\Un (uI X n) [0,1,1,1,1,1,1] 5=false:=⟨jF,jF,jF⟩
attribute [go_sem] Z2 Z3 Z4
def AO(X:jM)(n:Nat):SX (uI X n) (lH 0 (lw (mP .i64) kr)) jG 55 pM:=AZ
open Go.Proofs
@[go_sem]def PS:Af:=⟨[(3,8,true)],[],(zK::zA::zK::zK::DU (nj (nj (nj [])))),[oT jH.kv,oK,oA Syntax.row],none,none⟩
@[reducible] def Rp(X:jM)(n:Nat):kG Td:=oN gh f156 n (qE gh [.cell 2 37] [] [0] 1 jG (lw (lD Syntax.kv) kr)) (cl:=nE [(209,Dx (rq (oI (Ch jH.kv) nD (wF n)))),(210,Dx (rq (oI (Ch jH.kv) nD (xV n)))),(212,tj (l8 jI.row) (l8 Syntax.row) (ty3 (lD Syntax.kv) (mP .i64) (mP .i64)) (wI n))]) (tv:=sj [([0,0,1,1],PS)]) (pP:=qF [] [0] 1 jG jO) (cp:=Ao [(82,lj (k8 n)),(93,rT (mz n)),(148,lj (mT n)),(211,mD X.pI)]) (xb:=mE [82,93,148,211])
@[go_sem]abbrev PT(o0:jH)(r2:List Syntax)(c2:Nat):jJ:=⟨(.ptr 0 0::qA::.ptr 1 0::.lN 2 c2::DT (nN (nN (nN [])))),[.cells (jH.cells o0),.cells [.int .i64 0,.str (sb []),.int .i64 0,.kW true 0 [],.kW true 0 [],.kW true 0 [],.int .i64 0,.int .i64 0],.lN true 8 (mp Syntax.cells r2)],1,[]⟩
abbrev PU:=jH->(List Syntax)->Option Td
abbrev adf(X:jM)(n:Nat)(K:List Kt)(Z:PU):Prop:=∀o0 r2 c2,c2=r2.length->run (Rp X n) K (PT o0 r2 c2)=Z o0 r2
def zd(X:jM)(n:Nat):LB (adf X n) [0,0,1,1] [.tX 0,.cut [1,1,1],.at [1,1,1]]:=EH
def wR(X:jM)(n:Nat):Nat->PU:=AU ((zd X n).1)
def MK(X:jM){n:Nat}:wR X n (m+1)=(zd X n).1 (wR X n m):=rfl
@[go_sem]def YA(X:jM)(n:Nat)(m:Nat):=Dv (zd X n) (wR X n) m
def EB(X:jM)(n:Nat):SX (Rp X n) (lH 0 kr) jG 80 kE:=AZ
open Go.Proofs
@[reducible] def abM(X:jM)(n:Nat):kG Td:=oN gh f211 n (qE gh [.cell 2 37] [] [0] 1 jG (lw (lD Syntax.kv) kr)) (cl:=nE [(84,Dx (rq (oI (Ch jH.kv) (mP .i64) (p8 n)))),(88,Bh [0] (wh (Am jH.kv) uA) (RD 0 LZ) (wh (Am jH.kv) uA) (Qw mq Jl) (fun(b:Te) a=>(kL n) b.1)),(205,Dx (rq (oI (Ch jH.kv) (mP .i64) (pq n)))),(209,Dx (rq (oI (Ch jH.kv) nD (wF n))))]) (pP:=qF [] [0] 1 jG jO) (cp:=Ao [(250,mD X.rC)]) (xb:=mE [250])
def BH(X:jM)(n:Nat):SX (abM X n) (lH 0 kr) jG 25 kE:=AZ
open Go.Proofs
@[go_sem]def OI:Af:=⟨[],[],(zK::zA::zK::zK::zK::nh (nj (zA::zA::zA::[]))),[oT jH.kv,oK,oT Syntax.kv],none,none⟩
@[reducible] def PV(X:jM)(n:Nat):kG Td:=oN gh f250 n (qE gh [.cell 2 37] [] [0] 1 jG (lw (lD Syntax.kv) kr)) (cl:=nE [(210,Dx (rq (oI (Ch jH.kv) nD (xV n))))]) (tv:=sj [([0,1,0,1,1],OI)]) (pP:=qF [] [0] 1 jG jO) (cp:=Ao [(82,lj (k8 n)),(282,mD X.p9)]) (xb:=mE [82,282])
@[go_sem]abbrev OJ(v0:Int)(o0:jH)(o2:Syntax):jJ:=⟨(.ptr 0 0::qA::.ptr 1 0::.ptr 2 0::.int .i64 v0::nu (nN (qA::qA::qA::[]))),[.cells (jH.cells o0),.cells [.int .i64 0,.str (sb []),.int .i64 0,.kW true 0 [],.kW true 0 [],.kW true 0 [],.int .i64 0,.int .i64 0],.cells (Syntax.cells o2)],1,[]⟩
abbrev vO:=Int->jH->Syntax->Option Td
abbrev abN(X:jM)(n:Nat)(K:List Kt)(Z:vO):Prop:=∀v0 o0 o2,run (PV X n) K (OJ v0 o0 o2)=Z v0 o0 o2
def ya(X:jM)(n:Nat):LB (abN X n) [0,1,0,1,1] [.tX 0,.cut [1,1,1],.at [1,1,1]]:=EH
def yb(X:jM)(n:Nat):Nat->vO:=AU ((ya X n).1)
def LH(X:jM){n:Nat}:yb X n (m+1)=(ya X n).1 (yb X n m):=rfl
@[go_sem]def WO(X:jM)(n:Nat)(m:Nat):=Dv (ya X n) (yb X n) m
def CB(X:jM)(n:Nat):SX (PV X n) (lH 0 kr) jG 28 kE:=AZ
open Go.Proofs
def ML:Af:=⟨[],[],(zK::zA::zK::zK::zK::nh (nh (nj []))),[oT jH.kv,oK,oT Syntax.kv],none,none⟩
@[reducible] def BI(X:jM)(n:Nat):kG Td:=oN gh f282 n (qE gh [.cell 2 37] [] [0] 1 jG (lw (lD Syntax.kv) kr)) (cl:=nE [(88,Bh [0] (wh (Am jH.kv) uA) (RD 0 LZ) (wh (Am jH.kv) uA) (Qw mq Jl) (fun(b:Te) a=>(kL n) b.1)),(91,Dx (rq (tj (Ch jH.kv) mq nD (nF n))))]) (tv:=sj [([0,1,0,1,1],ML)]) (pP:=qF [] [0] 1 jG jO) (co:=PY [(205,aJo (rq (oI (Ch jH.kv) (mP .i64) (pq n))))]) (cp:=Ao [(82,lj (k8 n)),(304,mD X.qo)]) (xb:=mE [82,304]) (xy:=mE [205]) (xF:=mE [])
def abO(X:jM)(n:Nat):wV (BI X n) [1,1,1,0,0,1,0,0,1,0,1,1]=true:=jF
def abP(X:jM)(n:Nat):awD (BI X n) [1,1,1,0,0,1,0,0,1,0,1,1] 1 10 4 10 8 10:=⟨jF,jF,jF⟩
attribute [go_sem] abO abP ML
@[go_sem]abbrev MM(v0:Int)(o0:jH)(o2:Syntax):jJ:=⟨(.ptr 0 0::qA::.ptr 1 0::.ptr 2 0::.int .i64 v0::nu (nu (nN []))),[.cells (jH.cells o0),.cells [.int .i64 0,.str (sb []),.int .i64 0,.kW true 0 [],.kW true 0 [],.kW true 0 [],.int .i64 0,.int .i64 0],.cells (Syntax.cells o2)],1,[]⟩
abbrev Z5(X:jM)(n:Nat)(K:List Kt)(Z:vO):Prop:=∀v0 o0 o2,run (BI X n) K (MM v0 o0 o2)=Z v0 o0 o2
def xo(X:jM)(n:Nat):LB (Z5 X n) [0,1,0,1,1] [.tX 0,.cut [1,1,1],.at [1,1,1]]:=EH
def sM(X:jM)(n:Nat):Nat->vO:=AU ((xo X n).1)
def Ke(X:jM){n:Nat}:sM X n (m+1)=(xo X n).1 (sM X n m):=rfl
@[go_sem]def Vl(X:jM)(n:Nat)(m:Nat):=Dv (xo X n) (sM X n) m
def BJ(X:jM)(n:Nat):SX (BI X n) (lH 0 kr) jG 41 kE:=AZ
open Go.Proofs
@[reducible] def Z6(X:jM)(n:Nat):kG Td:=oN gh f304 n (qE gh [.cell 2 37] [] [0] 1 jG (lw (lD Syntax.kv) kr)) (cl:=nE [(84,Dx (rq (oI (Ch jH.kv) (mP .i64) (p8 n)))),(153,Bh [0] (wh (Am jH.kv) uA) (RD 0 (asT mq LZ)) (wh (Am jH.kv) uA) (Qw nD Jl) (fun(b:Te) a=>(lF n) b.1 a.1)),(205,Dx (rq (oI (Ch jH.kv) (mP .i64) (pq n))))]) (pP:=qF [] [0] 1 jG jO) (cp:=Ao [(319,LF X.p4),(320,xZ X.rW)]) (xb:=mE [319,320])
def AP(X:jM)(n:Nat):SX (Z6 X n) (lH 0 kr) jG 24 kE:=AZ
open Go.Proofs
def Kf:Af:=⟨[],[],(zK::zA::zA::zK::zK::zA::zK::zK::zK::DU (nh (nj (nj (zA::zA::zA::[]))))),[oT jH.kv,oT Syntax.kv,oK,oD,oA Syntax.row,oT Syntax.kv],none,none⟩
def Kg:Af:=⟨[],[],(zK::zA::zA::zK::zK::zA::zK::DU (nh (nj (nj (nj (zA::[])))))),[oT jH.kv,oT Syntax.kv,oK,oD,oA Syntax.row],none,none⟩
@[reducible] def lX(X:jM)(n:Nat):kG Td:=oN gh f319 n (qE gh [.cell 4 37] [] [0] 1 jG (lw (lD Syntax.kv) kr)) (cl:=nE [(153,Bh [0] (wh (Am jH.kv) uA) (RD 0 (asT mq LZ)) (wh (Am jH.kv) uA) (Qw nD Jl) (fun(b:Te) a=>(lF n) b.1 a.1)),(205,Dx (rq (oI (Ch jH.kv) (mP .i64) (pq n))))]) (tv:=sj [([0,1,0,1,1,1,1,1,1,1,1],Kf),([0,0,1,1,1,1,1],Kg)]) (pP:=qF [] [0] 1 jG jO) (co:=PY [(44,HB [.arg 0 []] jG (lH 0 kr) jG (lw (lD Syntax.kv) kr) jG jO (kE X.kp)),(91,aJo (rq (tj (Ch jH.kv) mq nD (nF n)))),(93,HB [.arg 0 []] jG (lH 0 (lw nD kr)) jG kr jG jO (rS (mz n))),(205,aJo (rq (oI (Ch jH.kv) (mP .i64) (pq n))))]) (cp:=Ao [(44,mD X.kp),(82,lj (k8 n)),(151,oZ (mA n))]) (xb:=mE [44,82,151]) (xy:=mE [44,91,93,205]) (xF:=mE [])
def YB(X:jM)(n:Nat):aB0 (lX X n) [0,0,1,0,0,1,0,1,1,1,1,1,1,1,1] [0,0,1,1,1,0,0,1,1] [0,1,1,1]:=⟨jF,jF,jF⟩
def YC(X:jM)(n:Nat):Fj (lX X n) [0,0,1,0,0,1,0,1,1,1,1,1,1,1,1] 2 16 3 16 4 16 8 16/\aqW (lX X n) [0,0,1,0,0,1,0,1,1,1,1,1,1,1,1] 10 16 14 16/\Fj (lX X n) [0,0,1,1,1,0,0,1,1] 2 5 0 7 2 7 5 7/\RH (lX X n) [0,1,1,1] 6 7=true:=⟨⟨jF,jF,jF,jF⟩,⟨jF,jF⟩,⟨jF,jF,jF,jF⟩,jF⟩
def YD(X:jM)(n:Nat):L2 (lX X n) [0,0,1,1,1,0,0,1,1] 2 3=true/\L2 (lX X n) [0,0,1,1,1,0,0,1,1] 2 4=false/\L2 (lX X n) [0,0,1,1,1,0,0,1,1] 2 5=true/\L2 (lX X n) [0,0,1,1,1,0,0,1,1] 2 6=true/\L2 (lX X n) [0,0,1,1,1,0,0,1,1] 2 7=true/\Un (lX X n) [0,0,1,1,1,0,0,1,1] 2=false/\Un (lX X n) [0,1,1,1] 7=true:=⟨jF,jF,jF,jF,jF,jF,jF⟩
attribute [go_sem] YB YC YD Kf Kg
abbrev Kh(v0:Int)(o0:jH)(o1:Syntax)(r4:List Syntax)(o5:Syntax)(c4:Nat):jJ:=⟨(.ptr 0 0::qA::qA::.ptr 1 0::.ptr 2 0::qA::.lN 4 c4::.ptr 5 0::.int .i64 v0::DT (nu (nN (nN (qA::qA::qA::[]))))),[.cells (jH.cells o0),.cells (Syntax.cells o1),.cells [.int .i64 0,.str (sb []),.int .i64 0,.kW true 0 [],.kW true 0 [],.kW true 0 [],.int .i64 0,.int .i64 0],.xu,.lN true 8 (mp Syntax.cells r4),.cells (Syntax.cells o5)],1,[]⟩
abbrev Ki:List Kt:=[.tX 3,.cut [1,1,1,1,1,1,1,1,1],.at [1,1,1,1,1,1,1,1,1]]
abbrev Kj:=Int->jH->Syntax->(List Syntax)->Syntax->Option Td
abbrev WP(X:jM)(n:Nat)(K:List Kt)(Z:Kj):Prop:=∀v0 o0 o1 r4 o5 c4,c4=r4.length->run (lX X n) K (Kh v0 o0 o1 r4 o5 c4)=Z v0 o0 o1 r4 o5
abbrev Kk(o0:jH)(o1:Syntax)(r4:List Syntax)(c4:Nat):jJ:=⟨(.ptr 0 0::qA::qA::.ptr 1 0::.ptr 2 0::qA::.lN 4 c4::DT (nu (nN (nN (nN (qA::[])))))),[.cells (jH.cells o0),.cells (Syntax.cells o1),.cells [.int .i64 0,.str (sb []),.int .i64 0,.kW true 0 [],.kW true 0 [],.kW true 0 [],.int .i64 0,.int .i64 0],.xu,.lN true 8 (mp Syntax.cells r4)],1,[]⟩
abbrev Kl:=jH->Syntax->(List Syntax)->Option Td
abbrev WQ(X:jM)(n:Nat)(K:List Kt)(Z:Kl):Prop:=∀o0 o1 r4 c4,c4=r4.length->run (lX X n) K (Kk o0 o1 r4 c4)=Z o0 o1 r4
attribute [go_sem] Kh Ki Kk
def vP(X:jM)(n:Nat):LB (WP X n) [0,1,0,1,1,1,1,1,1,1,1] Ki:=EH
def tf(X:jM)(n:Nat):Nat->Kj:=AU ((vP X n).1)
def HX(X:jM){n:Nat}:tf X n (m+1)=(vP X n).1 (tf X n m):=rfl
@[go_sem]def Rq(X:jM)(n:Nat)(m:Nat):=Dv (vP X n) (tf X n) m
def vQ(X:jM)(n:Nat):LB (WQ X n) [0,0,1,1,1,1,1] [.tX 1,.cut [1,1,1,1,1,1],.at [1,1,1,1,1,1]]:=EH
def vR(X:jM)(n:Nat):Nat->Kl:=AU ((vQ X n).1)
def HY(X:jM){n:Nat}:vR X n (m+1)=(vQ X n).1 (vR X n m):=rfl
@[go_sem]def Rr(X:jM)(n:Nat)(m:Nat):=Dv (vQ X n) (vR X n) m
def zY(X:jM)(n:Nat):SX (lX X n) (lH 0 (lw (lD Syntax.kv) kr)) jG 100 wJ:=AZ
open Go.Proofs
@[reducible] def abQ(X:jM)(n:Nat):kG Tf:=oN gh f320 n (qE gh [] [] [0,1] 2 ku kr) (cl:=nE [(85,Dx (rq (acL (Ch jH.kv) (mP .i64) mq nD (vo n)))),(88,Bh [0] (wh (Am jH.kv) uA) (RD 0 LZ) (wh (Am jH.kv) uA) (Qw mq Jl) (fun(b:Te) a=>(kL n) b.1)),(94,Dx (rq (oI (Ch jH.kv) (lD kF.kv) (lT n)))),(153,Bh [0] (wh (Am jH.kv) uA) (RD 0 (asT mq LZ)) (wh (Am jH.kv) uA) (Qw nD Jl) (fun(b:Te) a=>(lF n) b.1 a.1))]) (pP:=qF [] [0,1] 2 ku jO) (cp:=Ao [(148,lj (mT n)),(151,oZ (mA n)),(325,Ly (BG n)),(326,nW (Ay n)),(327,zN (rL n)),(328,FA (F5 n)),(329,Dm X.pG)]) (xb:=mE [148,151,325,326,327,328,329])
def BK(X:jM)(n:Nat):SX (abQ X n) (lH 0 (lH 1 kr)) ku 135 o9:=AZ
open Go.Proofs
@[go_sem]def I1:Af:=⟨[(3,8,true)],[],(zK::zA::zA::zK::nh (nj (zA::zA::[]))),[oT jH.kv,oA Syntax.row],none,none⟩
@[reducible] def Km(X:jM)(n:Nat):kG TK:=oN gh f329 n (qE gh [.tmp 2] [] [0] 1 jG (lw (l8 Syntax.row) kr)) (cl:=nE [(91,Dx (rq (tj (Ch jH.kv) mq nD (nF n)))),(153,Bh [0] (wh (Am jH.kv) uA) (RD 0 (asT mq LZ)) (wh (Am jH.kv) uA) (Qw nD Jl) (fun(b:Te) a=>(lF n) b.1 a.1))]) (tv:=sj [([0,0,1,1],I1)]) (pP:=qF [] [0] 1 jG jO) (cp:=Ao [(82,lj (k8 n)),(334,mD X.n5)]) (xb:=mE [82,334])
@[go_sem]abbrev I2(o0:jH)(r1:List Syntax)(c1:Nat):jJ:=⟨(.ptr 0 0::qA::qA::.lN 1 c1::nu (nN (qA::qA::[]))),[.cells (jH.cells o0),.lN true 8 (mp Syntax.cells r1)],1,[]⟩
abbrev I3:=jH->(List Syntax)->Option TK
abbrev Vm(X:jM)(n:Nat)(K:List Kt)(Z:I3):Prop:=∀o0 r1 c1,c1=r1.length->run (Km X n) K (I2 o0 r1 c1)=Z o0 r1
def uU(X:jM)(n:Nat):LB (Vm X n) [0,0,1,1] [.tX 0,.cut [1,1,1],.at [1,1,1]]:=EH
def uV(X:jM)(n:Nat):Nat->I3:=AU ((uU X n).1)
def GY(X:jM){n:Nat}:uV X n (m+1)=(uU X n).1 (uV X n m):=rfl
@[go_sem]def Qc(X:jM)(n:Nat)(m:Nat):=Dv (uU X n) (uV X n) m
def yA(X:jM)(n:Nat):SX (Km X n) (lH 0 kr) jG 26 vL:=AZ
open Go.Proofs
@[go_sem]def DL:Af:=⟨[],[],(zK::zA::zK::zK::zK::nh (nj (nj (zA::[])))),[oT jH.kv,oK,oT Syntax.kv],none,none⟩
@[reducible] def Fa(X:jM)(n:Nat):kG Td:=oN gh f334 n (qE gh [.cell 2 37] [] [0] 1 jG (lw (lD Syntax.kv) kr)) (cl:=nE [(153,Bh [0] (wh (Am jH.kv) uA) (RD 0 (asT mq LZ)) (wh (Am jH.kv) uA) (Qw nD Jl) (fun(b:Te) a=>(lF n) b.1 a.1))]) (tv:=sj [([0,1,0,1,1],DL)]) (pP:=qF [] [0] 1 jG jO) (cp:=Ao [(82,lj (k8 n)),(338,mD X.kU)]) (xb:=mE [82,338])
@[go_sem]abbrev DM(v0:Int)(o0:jH)(o2:Syntax):jJ:=⟨(.ptr 0 0::qA::.ptr 1 0::.ptr 2 0::.int .i64 v0::nu (nN (nN (qA::[])))),[.cells (jH.cells o0),.cells [.int .i64 0,.str (sb []),.int .i64 0,.kW true 0 [],.kW true 0 [],.kW true 0 [],.int .i64 0,.int .i64 0],.cells (Syntax.cells o2)],1,[]⟩
abbrev OK(X:jM)(n:Nat)(K:List Kt)(Z:vO):Prop:=∀v0 o0 o2,run (Fa X n) K (DM v0 o0 o2)=Z v0 o0 o2
def rM(X:jM)(n:Nat):LB (OK X n) [0,1,0,1,1] [.tX 0,.cut [1,1,1],.at [1,1,1]]:=EH
def rN(X:jM)(n:Nat):Nat->vO:=AU ((rM X n).1)
def Cc(X:jM){n:Nat}:rN X n (m+1)=(rM X n).1 (rN X n m):=rfl
@[go_sem]def LI(X:jM)(n:Nat)(m:Nat):=Dv (rM X n) (rN X n) m
def uZ(X:jM)(n:Nat):SX (Fa X n) (lH 0 kr) jG 30 kE:=AZ
open Go.Proofs
@[reducible] def pV(X:jM)(n:Nat):kG Td:=oN gh f338 n (ajW (Qy [(346,Mc [.arg 0 [],.zi 0 0 []] kP (lH 0 kr) kP kr (fun(b:(Unit×T6))(a:Unit)=>(qB n) b.2.1.1))]) (qE gh [.cell 2 37] [] [0] 1 jG (lw (lD Syntax.kv) kr)) (qF [] [0] 1 jG jO)) (cl:=nE [(91,Dx (rq (tj (Ch jH.kv) mq nD (nF n)))),(205,Dx (rq (oI (Ch jH.kv) (mP .i64) (pq n))))]) (pP:=ajX (Qy [(346,Mc [.arg 0 [],.zi 0 0 []] kP (lH 0 kr) kP kr (fun(b:(Unit×T6))(a:Unit)=>(qB n) b.2.1.1))]) (qE gh [.cell 2 37] [] [0] 1 jG (lw (lD Syntax.kv) kr)) (qF [] [0] 1 jG jO)) (co:=PY [(82,HB [.arg 0 []] jG (lH 0 (lw (mP .i64) kr)) jG kr jG jO (pR (k8 n))),(84,aJo (rq (oI (Ch jH.kv) (mP .i64) (p8 n)))),(93,HB [.arg 0 []] jG (lH 0 (lw nD kr)) jG kr jG jO (rS (mz n))),(94,aJo (rq (oI (Ch jH.kv) (lD kF.kv) (lT n))))]) (cp:=Ao [(347,xZ X.qq),(348,xZ X.qY)]) (xb:=mE [347,348]) (xy:=mE [82,84,93,94]) (xF:=mE [])
def YE(X:jM)(n:Nat):aB0 (pV X n) [0,1] [0,1,1,0,1,1,1,1,1] [0,1,1,1,1]:=⟨jF,jF,jF⟩
def YF(X:jM)(n:Nat):awD (pV X n) [0,1] 0 7 3 7 6 7/\Fj (pV X n) [0,1,1,0,1,1,1,1,1] 3 6 0 9 3 9 6 9/\Fj (pV X n) [0,1,1,1,1] 0 3 0 8 3 8 5 8/\Fj (pV X n) [0,1,1,1,1] 0 11 3 11 5 11 8 11/\RH (pV X n) [0,1,1,1,1] 10 11=true:=⟨⟨jF,jF,jF⟩,⟨jF,jF,jF,jF⟩,⟨jF,jF,jF,jF⟩,⟨jF,jF,jF,jF⟩,jF⟩
def YG(X:jM)(n:Nat):Un (pV X n) [0,1] 7=true/\Un (pV X n) [0,1,1,0,1,1,1,1,1] 9=true:=⟨jF,jF⟩
attribute [go_sem] YE YF YG
def wK(X:jM)(n:Nat):SX (pV X n) (lH 0 kr) jG 54 kE:=AZ
open Go.Proofs
@[reducible] def Z7(X:jM)(n:Nat):kG Tf:=oN gh f347 n (qE gh [] [] [0,1] 2 ku kr) (pP:=qF [] [0,1] 2 ku jO) (cp:=Ao [(151,oZ (mA n)),(329,Dm X.pG)]) (xb:=mE [151,329])
def AQ(X:jM)(n:Nat):SX (Z7 X n) (lH 0 (lH 1 kr)) ku 17 o9:=AZ
open Go.Proofs
def LJ:Af:=⟨[],[],(zK::zK::DU (DU (nj (nj (nj (zA::zA::zA::[])))))),[oT jH.kv,oC [zK,zK,zK,zK,zT (l8 jN.row),zT (l8 Syntax.row),zK,zK],oA mc],none,none⟩
@[reducible] def sN(X:jM)(n:Nat):kG Tf:=oN gh f348 n (qE gh [] [] [0,1] 2 ku kr) (cl:=nE [(88,Bh [0] (wh (Am jH.kv) uA) (RD 0 LZ) (wh (Am jH.kv) uA) (Qw mq Jl) (fun(b:Te) a=>(kL n) b.1)),(94,Dx (rq (oI (Ch jH.kv) (lD kF.kv) (lT n))))]) (tv:=sj [([0,1,1,0,1,1,1,1,1,1,1,1,1,1,1,1,1,0,1],LJ)]) (pP:=qF [] [0,1] 2 ku jO) (co:=PY [(82,HB [.arg 0 []] jG (lH 0 (lw (mP .i64) kr)) jG kr jG jO (pR (k8 n))),(88,HB [.arg 0 []] jG (lH 0 kr) jG (lw mq kr) jG (lw mq kr) (fun(b:T6)(a:Unit)=>((AF n) b.1.1).map fun r=>(PR.ok r:PR TF TF)))]) (cp:=Ao [(44,mD X.kp),(148,lj (mT n)),(149,nW (pU n)),(326,nW (Ay n)),(338,mD X.kU),(340,nW (qO n)),(347,xZ X.qq),(352,HU (yx n))]) (xb:=mE [44,148,149,326,338,340,347,352]) (xy:=mE [82,88]) (xF:=mE [])
def Z8(X:jM)(n:Nat):agz (sN X n) [0,0,1,0,0,1,1,0,1,1,1,1,1,1,1,1,1,1,1,1,1,0,1] [1,0,1,0,0,1,1,0,1,1,1,1,1,1,1,1,1,1,1,1,1,0,1]:=⟨jF,jF⟩
def Z9(X:jM)(n:Nat):aqW (sN X n) [0,0,1,0,0,1,1,0,1,1,1,1,1,1,1,1,1,1,1,1,1,0,1] 6 8 7 8/\Fj (sN X n) [1,0,1,0,0,1,1,0,1,1,1,1,1,1,1,1,1,1,1,1,1,0,1] 4 10 8 10 4 13 8 13/\RH (sN X n) [1,0,1,0,0,1,1,0,1,1,1,1,1,1,1,1,1,1,1,1,1,0,1] 10 13=true:=⟨⟨jF,jF⟩,⟨jF,jF,jF,jF⟩,jF⟩
def aaa(X:jM)(n:Nat):Un (sN X n) [0,0,1,0,0,1,1,0,1,1,1,1,1,1,1,1,1,1,1,1,1,0,1] 8=true:=jF
attribute [go_sem] Z8 Z9 aaa LJ
@[go_sem]abbrev LK(o0:jH)(v1:Int)(v2:Str)(v3:Int)(v4:List jN)(v5:List Syntax)(v6 v7:Int)(r2:List Str)(c2:Nat):jJ:=⟨(.ptr 0 0::.ptr 1 0::DT (DT (nN (nN (nN (qA::qA::qA::[])))))),[.cells (jH.cells o0),.cells [.int .i64 v1,.str (sb v2),.int .i64 v3,.lN 2 c2,.kW false 2 (mp jN.cells v4),.kW false 8 (mp Syntax.cells v5),.int .i64 v6,.int .i64 v7],.lN true 1 (mp nY r2)],2,[]⟩
abbrev LL:=jH->Int->Str->Int->Tg->(List Syntax)->Int->Int->(List Str)->Option Tf
abbrev YH(X:jM)(n:Nat)(K:List Kt)(Z:LL):Prop:=∀o0 v1 v2 v3 v4 v5 v6 v7 r2 c2,c2=r2.length->run (sN X n) K (LK o0 v1 v2 v3 v4 v5 v6 v7 r2 c2)=Z o0 v1 v2 v3 v4 v5 v6 v7 r2
def wL(X:jM)(n:Nat):LB (YH X n) [0,1,1,0,1,1,1,1,1,1,1,1,1,1,1,1,1,0,1] [.tX 1,.tX 0]:=EH
def wM(X:jM)(n:Nat):Nat->LL:=AU ((wL X n).1)
def I4(X:jM){n:Nat}:wM X n (m+1)=(wL X n).1 (wM X n m):=rfl
@[go_sem]def R8(X:jM)(n:Nat)(m:Nat):=Dv (wL X n) (wM X n) m
def AR(X:jM)(n:Nat):SX (sN X n) (lH 0 (lH 1 kr)) ku 145 o9:=AZ
open Go.Proofs
@[reducible] def tg(X:jM)(n:Nat):kG Td:=oN gh f89 n (qE gh [.cell 8 37] [] [0] 1 jG (lw (lD Syntax.kv) kr)) (cd:=M5 [(152,rq (acL (lD Syntax.kv) (l8 jS.row) (lD Syntax.kv) (lD Syntax.kv) (DI n)))]) (pP:=qF [] [0] 1 jG jO) (co:=PY [(44,HB [.arg 0 []] jG (lH 0 kr) jG (lw (lD Syntax.kv) kr) jG jO (kE X.kp))]) (cp:=Ao [(151,oZ (mA n))]) (xb:=mE [151]) (xy:=mE [44]) (xF:=mE [])
def WR(X:jM)(n:Nat):wV (tg X n) [0,1,1]=true:=jF
def WS(X:jM)(n:Nat):aqW (tg X n) [0,1,1] 0 5 3 5:=⟨jF,jF⟩
def WT(X:jM)(n:Nat):L2 (tg X n) [0,1,1] 3 4=true/\L2 (tg X n) [0,1,1] 3 5=true/\Un (tg X n) [0,1,1] 3=false:=⟨jF,jF,jF⟩
attribute [go_sem] WR WS WT
def yB(X:jM)(n:Nat):SX (tg X n) sE jG 19 td:=AZ
open Go.Proofs
def jK:Nat->jM
 |0=>⟨Fu.z,Fu.z,Fu.z,Fu.z,Fu.z,Fu.z,Fu.z,Fu.z,Fu.z,Fu.z,Fu.z,Fu.z,Fu.z,Fu.z,Fu.z,Fu.z,Fu.z,Fu.z⟩
 |n+1=>⟨(x8 (jK n) n).1,(Cy (jK n) n).1,(zX (jK n) n).1,(CA (jK n) n).1,(AO (jK n) n).1,(EB (jK n) n).1,(BH (jK n) n).1,(CB (jK n) n).1,(BJ (jK n) n).1,(AP (jK n) n).1,(zY (jK n) n).1,(BK (jK n) n).1,(yA (jK n) n).1,(uZ (jK n) n).1,(wK (jK n) n).1,(AQ (jK n) n).1,(AR (jK n) n).1,(yB (jK n) n).1⟩
def kp:jH->Option Td:=(jK n).kp
def OM{n:Nat}:kp (n+1)=(x8 (jK n) n).1:=rfl
def sW:Int->jH->Option Td:=(jK n).sW
def adg{n:Nat}:sW (n+1)=(Cy (jK n) n).1:=rfl
def ow:Str->Str->jH->Option Tu:=(jK n).ow
def YI{n:Nat}:ow (n+1)=(zX (jK n) n).1:=rfl
def sX:Int->jH->Option Td:=(jK n).sX
def adh{n:Nat}:sX (n+1)=(CA (jK n) n).1:=rfl
def qX:Int->jH->Option Td:=(jK n).qX
def aab{n:Nat}:qX (n+1)=(AO (jK n) n).1:=rfl
def rn:jH->Option Td:=(jK n).rn
def aeC{n:Nat}:rn (n+1)=(EB (jK n) n).1:=rfl
def pI:jH->Option Td:=(jK n).pI
def abR{n:Nat}:pI (n+1)=(BH (jK n) n).1:=rfl
def rC:jH->Option Td:=(jK n).rC
def adi{n:Nat}:rC (n+1)=(CB (jK n) n).1:=rfl
def p9:jH->Option Td:=(jK n).p9
def abS{n:Nat}:p9 (n+1)=(BJ (jK n) n).1:=rfl
def qo:jH->Option Td:=(jK n).qo
def aac{n:Nat}:qo (n+1)=(AP (jK n) n).1:=rfl
def p4:Syntax->jH->Option Td:=(jK n).p4
def YJ{n:Nat}:p4 (n+1)=(zY (jK n) n).1:=rfl
def rW:jH->Syntax->Option Tf:=(jK n).rW
def abT{n:Nat}:rW (n+1)=(BK (jK n) n).1:=rfl
def pG:jH->Option TK:=(jK n).pG
def WU{n:Nat}:pG (n+1)=(yA (jK n) n).1:=rfl
def n5:jH->Option Td:=(jK n).n5
def Pg{n:Nat}:n5 (n+1)=(uZ (jK n) n).1:=rfl
def kU:jH->Option Td:=(jK n).kU
def LM{n:Nat}:kU (n+1)=(wK (jK n) n).1:=rfl
def qq:jH->Syntax->Option Tf:=(jK n).qq
def aad{n:Nat}:qq (n+1)=(AQ (jK n) n).1:=rfl
def qY:jH->Syntax->Option Tf:=(jK n).qY
def aae{n:Nat}:qY (n+1)=(AR (jK n) n).1:=rfl
def pH:Syntax->TB->Str->jH->Option Td:=(jK n).pH
def WV{n:Nat}:pH (n+1)=(yB (jK n) n).1:=rfl
def j9{n:Nat}:(jK n).kp=kp n/\(jK n).sW=sW n/\(jK n).ow=ow n/\(jK n).sX=sX n/\(jK n).qX=qX n/\(jK n).rn=rn n/\(jK n).pI=pI n/\(jK n).rC=rC n/\(jK n).p9=p9 n/\(jK n).qo=qo n/\(jK n).p4=p4 n/\(jK n).rW=rW n/\(jK n).pG=pG n/\(jK n).n5=n5 n/\(jK n).kU=kU n/\(jK n).qq=qq n/\(jK n).qY=qY n/\(jK n).pH=pH n:=⟨rfl,rfl,rfl,rfl,rfl,rfl,rfl,rfl,rfl,rfl,rfl,rfl,rfl,rfl,rfl,rfl,rfl,rfl⟩
def kZ:∀n:Nat,tu gh 44 (lH 0 kr) jG true jG (lw (lD Syntax.kv) kr) jG jO (kE (jK n).kp)/\tu gh 86 (lH 0 (lw (mP .i64) kr)) jG true jG (lw (lD Syntax.kv) kr) jG jO (pM (jK n).sW)/\tu gh 90 (lH 0 (lw mq (lw mq kr))) jG true jG (lw (l8 jS.row) kr) jG jO (ud (jK n).ow)/\tu gh 87 (lH 0 (lw (mP .i64) kr)) jG true jG (lw (lD Syntax.kv) kr) jG jO (pM (jK n).sX)/\tu gh 92 (lH 0 (lw (mP .i64) kr)) jG true jG (lw (lD Syntax.kv) kr) jG jO (pM (jK n).qX)/\tu gh 156 (lH 0 kr) jG true jG (lw (lD Syntax.kv) kr) jG jO (kE (jK n).rn)/\tu gh 211 (lH 0 kr) jG true jG (lw (lD Syntax.kv) kr) jG jO (kE (jK n).pI)/\tu gh 250 (lH 0 kr) jG true jG (lw (lD Syntax.kv) kr) jG jO (kE (jK n).rC)/\tu gh 282 (lH 0 kr) jG true jG (lw (lD Syntax.kv) kr) jG jO (kE (jK n).p9)/\tu gh 304 (lH 0 kr) jG true jG (lw (lD Syntax.kv) kr) jG jO (kE (jK n).qo)/\tu gh 319 (lH 0 (lw (lD Syntax.kv) kr)) jG true jG (lw (lD Syntax.kv) kr) jG jO (wJ (jK n).p4)/\tu gh 320 (lH 0 (lH 1 kr)) ku true ku kr ku jO (o9 (jK n).rW)/\tu gh 329 (lH 0 kr) jG true jG (lw (l8 Syntax.row) kr) jG jO (vL (jK n).pG)/\tu gh 334 (lH 0 kr) jG true jG (lw (lD Syntax.kv) kr) jG jO (kE (jK n).n5)/\tu gh 338 (lH 0 kr) jG true jG (lw (lD Syntax.kv) kr) jG jO (kE (jK n).kU)/\tu gh 347 (lH 0 (lH 1 kr)) ku true ku kr ku jO (o9 (jK n).qq)/\tu gh 348 (lH 0 (lH 1 kr)) ku true ku kr ku jO (o9 (jK n).qY)/\tu gh 89 sE jG true jG (lw (lD Syntax.kv) kr) jG jO (td (jK n).pH)
 |0=>⟨fun _ _ _ h=>(by cases h),fun _ _ _ h=>(by cases h),fun _ _ _ h=>(by cases h),fun _ _ _ h=>(by cases h),fun _ _ _ h=>(by cases h),fun _ _ _ h=>(by cases h),fun _ _ _ h=>(by cases h),fun _ _ _ h=>(by cases h),fun _ _ _ h=>(by cases h),fun _ _ _ h=>(by cases h),fun _ _ _ h=>(by cases h),fun _ _ _ h=>(by cases h),fun _ _ _ h=>(by cases h),fun _ _ _ h=>(by cases h),fun _ _ _ h=>(by cases h),fun _ _ _ h=>(by cases h),fun _ _ _ h=>(by cases h),fun _ _ _ h=>(by cases h)⟩
 |n+1=>by
  obtain⟨qV,abU,Ko,abV,YK,adk,aaf,abW,aag,YL,WW,aah,I5,ON,Kp,LN,YM,Vn⟩:=kZ n
  exact⟨aDj (aqS fun u=>VM amQ (fun _ _ _ _=>rfl) (jF) (fun b a r h=>(QH n) b.2.1.1 r h u)) (x8 (jK n) n) (gd (jL (qd (mV (uE n))) (jL (qd (Qv (yY n))) (jL (pQ (fun b a r h=>(lE n) b.1 r h)) (jL (qd (wu (pu n))) jP)))) jQ (p:=(j7 (kB (abU)) (j7 (kB (abV)) (j7 (kB (YK)) lc)))) (c:=(ng (An (mH n)) (ng (An (Vn)) (ng (An (Ko)) tz))))) func44 ntmps44 results44,
   DV (Cy (jK n) n) (gd (jL (pQ (fun b a r h=>(lE n) b.1 r h)) (jL (qd (wu (pu n))) (jL (pQ (fun b a r h=>(Mp n) b.1 r h)) (jL (aiK (Q1 n)) jP)))) jQ (p:=(j7 (kB (qV)) (j7 (kB (mH n)) (j7 (kB (Ko)) (j7 (kB (ur n)) (j7 (kB (pF n)) lc))))))) func86 ntmps86 results86,
   DV (zX (jK n) n) (gd (jL (pQ (fun b a r h=>(lE n) b.1 r h)) (jL (qd (mV (zI n))) (jL (nT (Zf n)) jP))) jQ (p:=(j7 (kB (qV)) (j7 (kB (mH n)) (j7 (kB (ur n)) (j7 (kB (pF n)) lc)))))) func90 ntmps90 results90,
   DV (CA (jK n) n) (gd (jL (pQ (fun b a r h=>(lE n) b.1 r h)) (jL (pQ (fun b a r h=>(Mp n) b.1 r h)) (jL (pQ (fun b a r h=>(mi n) b.1 a.1 r h)) jP))) jQ (p:=(j7 (kB (qV)) (j7 (kB (ur n)) (j7 (kB (pF n)) lc))))) func87 ntmps87 results87,
   DV (AO (jK n) n) (gd (jL (pQ (fun b a r h=>(mi n) b.1 a.1 r h)) (jL (nT (Zf n)) (jL (pQ (fun b a r h=>(UX n) b.1 a.1 r h)) jP))) (nf (Qv (Q1 n)) jQ) (p:=(j7 (kB (adk)) lc)) (c:=(ng (An (qV)) tz))) func92 ntmps92 results92,
   DV (EB (jK n) n) (gd (jL (qd (mV (HO n))) (jL (qd (mV (JP n))) (jL (nT (afQ n)) jP))) jQ (p:=(j7 (kB (mH n)) (j7 (kB (py n)) (j7 (kB (vA n)) (j7 (kB (aaf)) lc)))))) func156 ntmps156 results156,
   DV (BH (jK n) n) (gd (jL (qd (mV (uE n))) (jL (pQ (fun b a r h=>(lE n) b.1 r h)) (jL (qd (mV (tC n))) (jL (qd (mV (HO n))) jP)))) jQ (p:=(j7 (kB (abW)) lc))) func211 ntmps211 results211,
   DV (CB (jK n) n) (gd (jL (qd (mV (JP n))) jP) jQ (p:=(j7 (kB (mH n)) (j7 (kB (aag)) lc)))) func250 ntmps250 results250,
   DV (BJ (jK n) n) (gd (jL (pQ (fun b a r h=>(lE n) b.1 r h)) (jL (qd (wu (pu n))) jP)) jQ (p:=(j7 (kB (mH n)) (j7 (kB (YL)) lc))) (c:=(ng (N4 (mV (tC n))) tz))) func282 ntmps282 results282,
   DV (AP (jK n) n) (gd (jL (qd (mV (uE n))) (jL (pQ (fun b a r h=>(mi n) b.1 a.1 r h)) (jL (qd (mV (tC n))) jP))) jQ (p:=(j7 (kB (WW)) (j7 (kB (aah)) lc)))) func304 ntmps304 results304,
   DV (zY (jK n) n) (gd (jL (pQ (fun b a r h=>(mi n) b.1 a.1 r h)) (jL (qd (mV (tC n))) jP)) jQ (p:=(j7 (kB (qV)) (j7 (kB (mH n)) (j7 (kB (pF n)) lc)))) (c:=(ng (An (qV)) (ng (N4 (wu (pu n))) (ng (An (py n)) (ng (N4 (mV (tC n))) tz)))))) func319 ntmps319 results319,
   DV (BK (jK n) n) (gd (jL (qd (Qv (yY n))) (jL (pQ (fun b a r h=>(lE n) b.1 r h)) (jL (qd (mV (lW n))) (jL (pQ (fun b a r h=>(mi n) b.1 a.1 r h)) jP)))) jQ (p:=(j7 (kB (vA n)) (j7 (kB (pF n)) (j7 (kB (WJ n)) (j7 (kB (My n)) (j7 (kB (Dg n)) (j7 (kB (abF n)) (j7 (kB (I5)) lc))))))))) func320 ntmps320 results320,
   DV (yA (jK n) n) (gd (jL (qd (wu (pu n))) (jL (pQ (fun b a r h=>(mi n) b.1 a.1 r h)) jP)) jQ (p:=(j7 (kB (mH n)) (j7 (kB (ON)) lc)))) func329 ntmps329 results329,
   DV (uZ (jK n) n) (gd (jL (pQ (fun b a r h=>(mi n) b.1 a.1 r h)) jP) jQ (p:=(j7 (kB (mH n)) (j7 (kB (Kp)) lc)))) func334 ntmps334 results334,
   aDj (aqS fun u=>VM amQ (fun _ _ _ _=>rfl) (jF) (fun b a r h=>(aJO n) b.2.1.1 r h u)) (wK (jK n) n) (gd (jL (qd (wu (pu n))) (jL (qd (mV (tC n))) jP)) jQ (p:=(j7 (kB (LN)) (j7 (kB (YM)) lc))) (c:=(ng (An (mH n)) (ng (N4 (mV (uE n))) (ng (An (py n)) (ng (N4 (mV (lW n))) tz)))))) func338 ntmps338 results338,
   DV (AQ (jK n) n) (gd jP jQ (p:=(j7 (kB (pF n)) (j7 (kB (I5)) lc)))) func347 ntmps347 results347,
   DV (AR (jK n) n) (gd (jL (pQ (fun b a r h=>(lE n) b.1 r h)) (jL (qd (mV (lW n))) jP)) jQ (p:=(j7 (kB (qV)) (j7 (kB (vA n)) (j7 (kB (ur n)) (j7 (kB (My n)) (j7 (kB (Kp)) (j7 (kB (F0 n)) (j7 (kB (LN)) (j7 (kB (Rf n)) lc))))))))) (c:=(ng (An (mH n)) (ng (ajV (UU n)) tz)))) func348 ntmps348 results348,
   DV (yB (jK n) n) (gd jP (nf (Qv (Q1 n)) jQ) (p:=(j7 (kB (pF n)) lc)) (c:=(ng (An (qV)) tz))) func89 ntmps89 results89⟩
def aai:tu gh 44 (lH 0 kr) jG true jG (lw (lD Syntax.kv) kr) jG jO (kE (kp n)):=(kZ n).1
def aq7:tu gh 86 (lH 0 (lw (mP .i64) kr)) jG true jG (lw (lD Syntax.kv) kr) jG jO (pM (sW n)):=(kZ n).2.1
def amW:tu gh 90 (lH 0 (lw mq (lw mq kr))) jG true jG (lw (l8 jS.row) kr) jG jO (ud (ow n)):=(kZ n).2.2.1
def aq8:tu gh 87 (lH 0 (lw (mP .i64) kr)) jG true jG (lw (lD Syntax.kv) kr) jG jO (pM (sX n)):=(kZ n).2.2.2.1
def aos:tu gh 92 (lH 0 (lw (mP .i64) kr)) jG true jG (lw (lD Syntax.kv) kr) jG jO (pM (qX n)):=(kZ n).2.2.2.2.1
def ar3:tu gh 156 (lH 0 kr) jG true jG (lw (lD Syntax.kv) kr) jG jO (kE (rn n)):=(kZ n).2.2.2.2.2.1
def aoT:tu gh 211 (lH 0 kr) jG true jG (lw (lD Syntax.kv) kr) jG jO (kE (pI n)):=(kZ n).2.2.2.2.2.2.1
def aq9:tu gh 250 (lH 0 kr) jG true jG (lw (lD Syntax.kv) kr) jG jO (kE (rC n)):=(kZ n).2.2.2.2.2.2.2.1
def aoU:tu gh 282 (lH 0 kr) jG true jG (lw (lD Syntax.kv) kr) jG jO (kE (p9 n)):=(kZ n).2.2.2.2.2.2.2.2.1
def aot:tu gh 304 (lH 0 kr) jG true jG (lw (lD Syntax.kv) kr) jG jO (kE (qo n)):=(kZ n).2.2.2.2.2.2.2.2.2.1
def amX:tu gh 319 (lH 0 (lw (lD Syntax.kv) kr)) jG true jG (lw (lD Syntax.kv) kr) jG jO (wJ (p4 n)):=(kZ n).2.2.2.2.2.2.2.2.2.2.1
def aoV:tu gh 320 (lH 0 (lH 1 kr)) ku true ku kr ku jO (o9 (rW n)):=(kZ n).2.2.2.2.2.2.2.2.2.2.2.1
def alY:tu gh 329 (lH 0 kr) jG true jG (lw (l8 Syntax.row) kr) jG jO (vL (pG n)):=(kZ n).2.2.2.2.2.2.2.2.2.2.2.2.1
def ahF:tu gh 334 (lH 0 kr) jG true jG (lw (lD Syntax.kv) kr) jG jO (kE (n5 n)):=(kZ n).2.2.2.2.2.2.2.2.2.2.2.2.2.1
def amY:tu gh 338 (lH 0 kr) jG true jG (lw (lD Syntax.kv) kr) jG jO (kE (kU n)):=(kZ n).2.2.2.2.2.2.2.2.2.2.2.2.2.2.1
def aou:tu gh 347 (lH 0 (lH 1 kr)) ku true ku kr ku jO (o9 (qq n)):=(kZ n).2.2.2.2.2.2.2.2.2.2.2.2.2.2.2.1
def aov:tu gh 348 (lH 0 (lH 1 kr)) ku true ku kr ku jO (o9 (qY n)):=(kZ n).2.2.2.2.2.2.2.2.2.2.2.2.2.2.2.2.1
def al0:tu gh 89 sE jG true jG (lw (lD Syntax.kv) kr) jG jO (td (pH n)):=(kZ n).2.2.2.2.2.2.2.2.2.2.2.2.2.2.2.2.2
open Go.Proofs
@[go_sem]abbrev lG(F:Syntax->(List jI)->Bool->Str->Option (T9×Unit))(b:T9)(a:(Syntax×Unit)):=F a.1 b.1.1 b.1.2.1 b.2.1
@[go_sem]def nO(F:Syntax->(List jI)->Bool->Str->Option (T9×Unit)):=Kr [.arg 0 [],.zi 0 1 []] jR (lH 0 (lw (lD Syntax.kv) kr)) jR kr (lG F)
@[go_sem]def mj:=(lH 0 (lw mq (alB 71 (vlP 0 vlN) (lw (lD Syntax.kv) (lw mq kr)))))
@[go_sem]abbrev ky(F:Str->Syntax->Str->(List jI)->Bool->Str->Option (T9×Unit))(b:T9)(a:(Str×(Unit×(Syntax×(Str×Unit))))):=F a.1 a.2.2.1 a.2.2.2.1 b.1.1 b.1.2.1 b.2.1
@[go_sem]def nR(F:Str->Syntax->Str->(List jI)->Bool->Str->Option (T9×Unit)):=Kr [.arg 0 [],.zi 0 1 []] jR mj jR kr (ky F)
@[go_sem]def n6:=(lH 0 (lw mq (alB 134 (vlP 0 vlN) (lw (lD Syntax.kv) (lw mq kr)))))
@[go_sem]def su(F:Str->Syntax->Str->(List jI)->Bool->Str->Option (T9×Unit)):=Kr [.arg 0 [],.zi 0 1 []] jR n6 jR kr (ky F)
@[go_sem]def nI:=(lH 0 (lw mq (alB 233 (vlP 0 vlN) (lw (lD Syntax.kv) (lw mq kr)))))
@[go_sem]def vZ(F:Str->Syntax->Str->(List jI)->Bool->Str->Option (T9×Unit)):=Kr [.arg 0 [],.zi 0 1 []] jR nI jR kr (ky F)
structure kz where
 qt:Syntax->(List jI)->Bool->Str->Option (T9×Unit)
 kI:Str->Syntax->Str->(List jI)->Bool->Str->Option (T9×Unit)
 qW:Syntax->(List jI)->Bool->Str->Option (T9×Unit)
 lh:Str->Syntax->Str->(List jI)->Bool->Str->Option (T9×Unit)
 rD:Syntax->(List jI)->Bool->Str->Option (T9×Unit)
 rX:Syntax->(List jI)->Bool->Str->Option (T9×Unit)
 qZ:Syntax->(List jI)->Bool->Str->Option (T9×Unit)
 lC:Str->Syntax->Str->(List jI)->Bool->Str->Option (T9×Unit)
open Go.Proofs
@[reducible] def AS(X:kz)(n:Nat):kG (T9×Unit):=oN gh f71 n (xT gh [] [] [0,1] 2 jR kr) (cl:=nE [(71,nO X.qt),(131,rK (tF n)),(132,nR X.kI),(133,nO X.qW),(134,nO X.rD)]) (co:=PY [(132,HB [.arg 0 [],.zi 0 1 []] jR mj jR kr jR kr (fun(b:T9)(a:(Str×(Unit×(Syntax×(Str×Unit)))))=>(X.kI a.1 a.2.2.1 a.2.2.2.1 b.1.1 b.1.2.1 b.2.1).map fun r=>(PR.ok r:PR (T9×Unit) (T9×Unit))))]) (xy:=mE [132]) (xF:=mE [])
@[go_sem]def aaj(X:kz)(n:Nat):agz (AS X n) [0,0,1,1,1,1,1,0,1,1,1,1] [1,1,0,0,1,0,1,1,1,1]:=⟨jF,jF⟩
@[go_sem]def aak(X:kz)(n:Nat):Fj (AS X n) [0,0,1,1,1,1,1,0,1,1,1,1] 2 11 8 11 9 11 10 11/\Fj (AS X n) [1,1,0,0,1,0,1,1,1,1] 2 11 8 11 9 11 10 11:=⟨⟨jF,jF,jF,jF⟩,jF,jF,jF,jF⟩
def FD(X:kz)(n:Nat):SX (AS X n) (lH 0 (lw (lD Syntax.kv) kr)) jR 120 lG:=AZ
open Go.Proofs
@[reducible] def DA(X:kz)(n:Nat):kG (T9×Unit):=oN gh f132 n (xT gh [] [] [0,1] 2 jR kr) (cl:=nE [(71,nO X.qt),(131,rK (tF n))])
def rH(X:kz)(n:Nat):SX (DA X n) mj jR 21 ky:=mC
open Go.Proofs
@[reducible] def WX(X:kz)(n:Nat):kG (T9×Unit):=oN gh f133 n (xT gh [] [] [0,1] 2 jR kr) (cl:=nE [(132,Uq (nR X.kI) (su X.lh)),(134,nO X.rD)])
def Dn(X:kz)(n:Nat):SX (WX X n) (lH 0 (lw (lD Syntax.kv) kr)) jR 51 lG:=mC
open Go.Proofs
@[reducible] def Fb(X:kz)(n:Nat):kG (T9×Unit):=oN gh f132 n (xT gh [] [] [0,1] 2 jR kr) (cl:=nE [(131,rK (tF n)),(134,nO X.rD)])
def sv(X:kz)(n:Nat):SX (Fb X n) n6 jR 21 ky:=mC
open Go.Proofs
@[go_sem]def OO:Af:=⟨[],[],(zK::nh (nh (zT (l8 Syntax.row)::zK::zK::nh (nh (nj (zA::[])))))),[oC [zK,zK,zT (l8 jI.row),zK],oY],none,none⟩
@[reducible] def PW(X:kz)(n:Nat):kG (T9×Unit):=oN gh f134 n (xT gh [] [] [0,1] 2 jR kr) (cl:=nE [(127,oI (mP .i64) nD (NL n)),(131,rK (tF n)),(132,Uq (nR X.kI) (su X.lh)),(188,Lz (OD n)),(189,nO X.rX)]) (tv:=sj [([0,1,1,1,1,1,1],OO)])
@[go_sem]abbrev OP(v0:List Syntax)(v1 v2:Int)(v3:List jI)(v4:Bool)(r1:Str)(c1:Nat):jJ:=⟨(.ptr 0 0::nu (nu (.kW false 8 (mp Syntax.cells v0)::.int .i64 v1::.int .i64 v2::nu (nu (nN (qA::[])))))),[.cells [.sn 141 0,.lN 1 c1,.kW false 4 (mp jI.cells v3),.bool v4],.Io (sb r1)],2,[]⟩
abbrev OQ:=(List Syntax)->Int->Int->(List jI)->Bool->Str->Option (T9×Unit)
abbrev abX(X:kz)(n:Nat)(K:List Kt)(Z:OQ):Prop:=∀v0 v1 v2 v3 v4 r1 c1,c1=r1.length->run (PW X n) K (OP v0 v1 v2 v3 v4 r1 c1)=Z v0 v1 v2 v3 v4 r1
def GZ(X:kz)(n:Nat):LB (abX X n) [0,1,1,1,1,1,1] [.tX 0]:=mB
def G1(X:kz)(n:Nat):Nat->OQ:=AU ((GZ X n).1)
def aow(X:kz){n:Nat}:G1 X n (m+1)=(GZ X n).1 (G1 X n m):=rfl
@[go_sem]def WY(X:kz)(n:Nat)(m:Nat):=Dv (GZ X n) (G1 X n) m
def Ik(X:kz)(n:Nat):SX (PW X n) (lH 0 (lw (lD Syntax.kv) kr)) jR 73 lG:=mC
open Go.Proofs
@[reducible] def abY(X:kz)(n:Nat):kG (T9×Unit):=oN gh f189 n (xT gh [] [] [0,1] 2 jR kr) (cl:=nE [(131,rK (tF n)),(189,nO X.rX),(233,nO X.qZ),(234,oI (lD jN.kv) mq (UO n))])
def G2(X:kz)(n:Nat):SX (abY X n) (lH 0 (lw (lD Syntax.kv) kr)) jR 62 lG:=mC
open Go.Proofs
@[go_sem]def LO:Af:=⟨[(4,1,true)],[],(zK::zA::zA::zA::zK::nh (nj (nj (zA::zA::zA::zT (l8 jN.row)::zK::zK::DU (nh (nh (nj (nj (zA::[]))))))))),[oC [zK,zK,zT (l8 jI.row),zK],oY,oD,oA mc],none,none⟩
@[reducible] def MN(X:kz)(n:Nat):kG (T9×Unit):=oN gh f233 n (xT gh [] [] [0,1] 2 jR kr) (cl:=nE [(131,rK (tF n)),(132,Uq (vZ X.lC) (nR X.kI)),(170,oI (mP .i64) mq (strconv_Itoa n)),(234,oI (lD jN.kv) mq (UO n)),(260,tj (l8 mc) mq mq (strings_Join n))]) (tv:=sj [([0,1,0,1,1,1,0,1,0,1,1,1],LO)])
@[go_sem]abbrev LP(v0:List jN)(v1 v2:Int)(v3:List jI)(v4:Bool)(r1:Str)(r3:List Str)(c1:Nat)(c3:Nat):jJ:=⟨(.ptr 0 0::qA::qA::qA::.lN 3 c3::nu (nN (nN (qA::qA::qA::.kW false 2 (mp jN.cells v0)::.int .i64 v1::.int .i64 v2::DT (nu (nu (nN (nN (qA::[]))))))))),[.cells [.sn 141 0,.lN 1 c1,.kW false 4 (mp jI.cells v3),.bool v4],.Io (sb r1),.xu,.lN true 1 (mp nY r3)],2,[]⟩
@[go_sem]abbrev LQ:List Kt:=[.tX 1,.cut [1,1,1,1,0,1,0,1,1,1],.at [1,1,1,1,0,1,0,1,1,1],.tX 0]
abbrev LR:=Tg->Int->Int->(List jI)->Bool->Str->(List Str)->Option (T9×Unit)
abbrev YN(X:kz)(n:Nat)(K:List Kt)(Z:LR):Prop:=∀v0 v1 v2 v3 v4 r1 r3 c1 c3,c1=r1.length->c3=r3.length->run (MN X n) K (LP v0 v1 v2 v3 v4 r1 r3 c1 c3)=Z v0 v1 v2 v3 v4 r1 r3
def EC(X:kz)(n:Nat):LB (YN X n) [0,1,0,1,1,1,0,1,0,1,1,1] LQ:=mB
def ED(X:kz)(n:Nat):Nat->LR:=AU ((EC X n).1)
def al1(X:kz){n:Nat}:ED X n (m+1)=(EC X n).1 (ED X n m):=rfl
@[go_sem]def R9(X:kz)(n:Nat)(m:Nat):=Dv (EC X n) (ED X n) m
def FE(X:kz)(n:Nat):SX (MN X n) (lH 0 (lw (lD Syntax.kv) kr)) jR 140 lG:=mC
open Go.Proofs
@[reducible] def DB(X:kz)(n:Nat):kG (T9×Unit):=oN gh f132 n (xT gh [] [] [0,1] 2 jR kr) (cl:=nE [(131,rK (tF n)),(233,nO X.qZ)])
def rI(X:kz)(n:Nat):SX (DB X n) nI jR 21 ky:=mC
open Go.Proofs
def jZ:Nat->kz
 |0=>⟨Fu.z,Fu.z,Fu.z,Fu.z,Fu.z,Fu.z,Fu.z,Fu.z⟩
 |n+1=>⟨(FD (jZ n) n).1,(rH (jZ n) n).1,(Dn (jZ n) n).1,(sv (jZ n) n).1,(Ik (jZ n) n).1,(G2 (jZ n) n).1,(FE (jZ n) n).1,(rI (jZ n) n).1⟩
def qt:Syntax->(List jI)->Bool->Str->Option (T9×Unit):=(jZ n).qt
def aoW{n:Nat}:qt (n+1)=(FD (jZ n) n).1:=rfl
def kI:Str->Syntax->Str->(List jI)->Bool->Str->Option (T9×Unit):=(jZ n).kI
def Xj{n:Nat}:kI (n+1)=(rH (jZ n) n).1:=rfl
def qW:Syntax->(List jI)->Bool->Str->Option (T9×Unit):=(jZ n).qW
def amZ{n:Nat}:qW (n+1)=(Dn (jZ n) n).1:=rfl
def lh:Str->Syntax->Str->(List jI)->Bool->Str->Option (T9×Unit):=(jZ n).lh
def Zy{n:Nat}:lh (n+1)=(sv (jZ n) n).1:=rfl
def rD:Syntax->(List jI)->Bool->Str->Option (T9×Unit):=(jZ n).rD
def ar4{n:Nat}:rD (n+1)=(Ik (jZ n) n).1:=rfl
def rX:Syntax->(List jI)->Bool->Str->Option (T9×Unit):=(jZ n).rX
def ara{n:Nat}:rX (n+1)=(G2 (jZ n) n).1:=rfl
def qZ:Syntax->(List jI)->Bool->Str->Option (T9×Unit):=(jZ n).qZ
def aoX{n:Nat}:qZ (n+1)=(FE (jZ n) n).1:=rfl
def lC:Str->Syntax->Str->(List jI)->Bool->Str->Option (T9×Unit):=(jZ n).lC
def Xk{n:Nat}:lC (n+1)=(rI (jZ n) n).1:=rfl
def aox{n:Nat}:(jZ n).qt=qt n/\(jZ n).kI=kI n/\(jZ n).qW=qW n/\(jZ n).lh=lh n/\(jZ n).rD=rD n/\(jZ n).rX=rX n/\(jZ n).qZ=qZ n/\(jZ n).lC=lC n:=⟨rfl,rfl,rfl,rfl,rfl,rfl,rfl,rfl⟩
def pE:∀n:Nat,Bl gh 71 (lH 0 (lw (lD Syntax.kv) kr)) jR jR kr (lG (jZ n).qt)/\Bl gh 132 mj jR jR kr (ky (jZ n).kI)/\Bl gh 133 (lH 0 (lw (lD Syntax.kv) kr)) jR jR kr (lG (jZ n).qW)/\Bl gh 132 n6 jR jR kr (ky (jZ n).lh)/\Bl gh 134 (lH 0 (lw (lD Syntax.kv) kr)) jR jR kr (lG (jZ n).rD)/\Bl gh 189 (lH 0 (lw (lD Syntax.kv) kr)) jR jR kr (lG (jZ n).rX)/\Bl gh 233 (lH 0 (lw (lD Syntax.kv) kr)) jR jR kr (lG (jZ n).qZ)/\Bl gh 132 nI jR jR kr (ky (jZ n).lC)
 |0=>⟨fun _ _ _ h=>(by cases h),fun _ _ _ h=>(by cases h),fun _ _ _ h=>(by cases h),fun _ _ _ h=>(by cases h),fun _ _ _ h=>(by cases h),fun _ _ _ h=>(by cases h),fun _ _ _ h=>(by cases h),fun _ _ _ h=>(by cases h)⟩
 |n+1=>by
  obtain⟨LS,nJ,Vo,wN,G3,MO,LU,Do⟩:=pE n
  exact⟨Jn (FD (jZ n) n) (gd (jL (mS (LS)) (jL (mS (sJ n)) (jL (mS (nJ)) (jL (mS (Vo)) (jL (mS (G3)) jP))))) jQ (c:=(ng (ajV (nJ)) tz))) func71 ntmps71 results71,
   Jn (rH (jZ n) n) (gd (jL (mS (LS)) (jL (mS (sJ n)) jP)) jQ) func132 ntmps132 results132,
   Jn (Dn (jZ n) n) (gd (jL (acq (mS (nJ)) (mS (wN))) (jL (mS (G3)) jP)) jQ) func133 ntmps133 results133,
   Jn (sv (jZ n) n) (gd (jL (mS (sJ n)) (jL (mS (G3)) jP)) jQ) func132 ntmps132 results132,
   Jn (Ik (jZ n) n) (gd (jL (lK (Nb n)) (jL (mS (sJ n)) (jL (acq (mS (nJ)) (mS (wN))) (jL (mS (WK n)) (jL (mS (MO)) jP))))) jQ) func134 ntmps134 results134,
   Jn (G2 (jZ n) n) (gd (jL (mS (sJ n)) (jL (mS (MO)) (jL (mS (LU)) (jL (lK (VZ n)) jP)))) jQ) func189 ntmps189 results189,
   Jn (FE (jZ n) n) (gd (jL (mS (sJ n)) (jL (acq (mS (Do)) (mS (nJ))) (jL (lK (aJK n)) (jL (lK (VZ n)) (jL (nT (aJp n)) jP))))) jQ) func233 ntmps233 results233,
   Jn (rI (jZ n) n) (gd (jL (mS (sJ n)) (jL (mS (LU)) jP)) jQ) func132 ntmps132 results132⟩
def YO:Bl gh 71 (lH 0 (lw (lD Syntax.kv) kr)) jR jR kr (lG (qt n)):=(pE n).1
def WZ:Bl gh 132 mj jR jR kr (ky (kI n)):=(pE n).2.1
def al2:Bl gh 133 (lH 0 (lw (lD Syntax.kv) kr)) jR jR kr (lG (qW n)):=(pE n).2.2.1
def YP:Bl gh 132 n6 jR jR kr (ky (lh n)):=(pE n).2.2.2.1
def arb:Bl gh 134 (lH 0 (lw (lD Syntax.kv) kr)) jR jR kr (lG (rD n)):=(pE n).2.2.2.2.1
def aoY:Bl gh 189 (lH 0 (lw (lD Syntax.kv) kr)) jR jR kr (lG (rX n)):=(pE n).2.2.2.2.2.1
def aoy:Bl gh 233 (lH 0 (lw (lD Syntax.kv) kr)) jR jR kr (lG (qZ n)):=(pE n).2.2.2.2.2.2.1
def aJz:Bl gh 132 nI jR jR kr (ky (lC n)):=(pE n).2.2.2.2.2.2.2
open Go.Proofs
@[reducible] def adZ:kG TO:=oN gh f13 n (aBP (Qy [(41,Mc [.arg 0 [],.arg 1 [],.arg 2 []] ke (lH 0 (lH 1 (lH 2 kr))) ke kr (fun(b:Ti)(a:Unit)=>(xz n) b.1.1 b.2.1.1 b.2.2.1.1))]) (Qy [(41,Mc [.arg 0 [],.arg 1 [],.arg 2 []] ke wQ ke kr (fun(b:Ti)(a:T8)=>(ua n) a.1 b.1.1 b.2.1.1 b.2.2.1.1))]) gh [.cell 4 37,.cell 5 3,.cell 6 28] (ty3 (lD Syntax.kv) (mP .i64) (mP .i64))) (pP:=au5 (Qy [(41,Mc [.arg 0 [],.arg 1 [],.arg 2 []] ke (lH 0 (lH 1 (lH 2 kr))) ke kr (fun(b:Ti)(a:Unit)=>(xz n) b.1.1 b.2.1.1 b.2.2.1.1))]) (Qy [(41,Mc [.arg 0 [],.arg 1 [],.arg 2 []] ke wQ ke kr (fun(b:Ti)(a:T8)=>(ua n) a.1 b.1.1 b.2.1.1 b.2.2.1.1))]) gh [.cell 4 37,.cell 5 3,.cell 6 28] (ty3 (lD Syntax.kv) (mP .i64) (mP .i64))) (cp:=Ao [(43,Ri (Ad n)),(44,mD (kp n)),(45,Ll (xY n))]) (xb:=mE [43,44,45])
def Vp:{B:Str->(List jI)->Option TO //∀(a0:Str)(a1:(List jI)),run (adZ n) [.at []] (ini [mq.enc a0,(l8 jI.row).enc a1] 23)=B a0 a1}:=EH
def Kq:=fu fun n=>(Vp n).1
def Rt:∀(n:Nat)(a0:Str)(a1:(List jI))(r:TO),Kq n a0 a1=some r->KD gh 13 [mq.enc a0,(l8 jI.row).enc a1] (fun v=>v=(ty3 (lD Syntax.kv) (mP .i64) (mP .i64)).enc r)
 |0,_,_,_,h=>by cases h
 |n+1,a0,a1,r,h=>by
  exact aqG (M:=adZ n) (t:=(ty3 (lD Syntax.kv) (mP .i64) (mP .i64))) (cr:=(Qy [(41,Mc [.arg 0 [],.arg 1 [],.arg 2 []] ke (lH 0 (lH 1 (lH 2 kr))) ke kr (fun(b:Ti)(a:Unit)=>(xz n) b.1.1 b.2.1.1 b.2.2.1.1))])) (cp:=(Qy [(41,Mc [.arg 0 [],.arg 1 [],.arg 2 []] ke wQ ke kr (fun(b:Ti)(a:T8)=>(ua n) a.1 b.1.1 b.2.1.1 b.2.2.1.1))])) ⟨jP,jQ,qI _,rz _,uK,uM,(j7 (kB (ac8 n)) (j7 (kB (aai n)) (j7 (kB (Wz n)) lc))),vg⟩ (KJ (VM agn (fun _ _ _ _=>rfl) (jF) (fun b a r h=>(acO n) b.1.1 b.2.1.1 b.2.2.1.1 r h)) N3) (KJ (VM ago (fun _ _ _ _=>rfl) (jF) (fun b a r h=>(acY n) a.1 b.1.1 b.2.1.1 b.2.2.1.1 r h)) N3) func13 rfl rfl ⟨mq.nb 0 _,(l8 jI.row).nb 0 _,trivial⟩ ntmps13 results13 rfl rfl (((Vp n).2 a0 a1).trans h)
end Go.Abs
end
