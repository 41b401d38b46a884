/- A part of the proof: what the functions compute. -/
import Derived.Test.YtpdbjkgnmjnebaaGreatDoorDataA
import Derived.Test.YtpdbjkgnmjnebaaGreatDoorWalkA
import Derived.Test.YtpdbjkgnmjnebaaGreatDoorWalkB
import Derived.Test.YtpdbjkgnmjnebaaGreatDoorWalkC
import Derived.Test.YtpdbjkgnmjnebaaGreatDoorWalkD
import Derived.Test.YtpdbjkgnmjnebaaGreatDoorExtA
set_option linter.all false
open Go.Proofs.Tryz renaming prog→gX
open Go.Abs.AV renaming any→qA
noncomputable section
open Go.Proofs.Tryz
namespace Go.Abs
variable {m:Nat}
variable (n:Nat)
open Go.Proofs
attribute [go_sem] f47 f57 f15 f17 f13 f16 f4
set_option maxRecDepth 100000
set_option maxHeartbeats 4000000
def jY:Nat->j1
 |0=>⟨Fu.z,Fu.z,Fu.z,Fu.z,Fu.z,Fu.z,Fu.z,Fu.z,Fu.z,Fu.z,Fu.z,Fu.z,Fu.z,Fu.z,Fu.z,Fu.z,Fu.z,Fu.z⟩
 |n+1=>⟨(ID (jY n) n).1,(JX (jY n) n).1,(E9 (jY n) n).1,(JY (jY n) n).1,(Gu (jY n) n).1,(LC (jY n) n).1,(II (jY n) n).1,(alM (jY n) n).1,(IL (jY n) n).1,(Gx (jY n) n).1,(Fa (jY n) n).1,(IM (jY n) n).1,(DY (jY n) n).1,(ze (jY n) n).1,(Fb (jY n) n).1,(Gy (jY n) n).1,(Gz (jY n) n).1,(DZ (jY n) n).1⟩
def nO:jQ->Option Td:=(jY n).nO
def aDN{n:Nat}:nO (n+1)=(ID (jY n) n).1:=rfl
def uL:Int->jQ->Option Td:=(jY n).uL
def aEh{n:Nat}:uL (n+1)=(JX (jY n) n).1:=rfl
def qW:kp->kp->jQ->Option Tz:=(jY n).qW
def aAZ{n:Nat}:qW (n+1)=(E9 (jY n) n).1:=rfl
def uM:Int->jQ->Option Td:=(jY n).uM
def aEi{n:Nat}:uM (n+1)=(JY (jY n) n).1:=rfl
def sU:Int->jQ->Option Td:=(jY n).sU
def aBs{n:Nat}:sU (n+1)=(Gu (jY n) n).1:=rfl
def wh:jQ->Option Td:=(jY n).wh
def aGb{n:Nat}:wh (n+1)=(LC (jY n) n).1:=rfl
def tU:jQ->Option Td:=(jY n).tU
def aDO{n:Nat}:tU (n+1)=(II (jY n) n).1:=rfl
def uN:jQ->Option Td:=(jY n).uN
def aEj{n:Nat}:uN (n+1)=(alM (jY n) n).1:=rfl
def tV:jQ->Option Td:=(jY n).tV
def aDP{n:Nat}:tV (n+1)=(IL (jY n) n).1:=rfl
def sV:jQ->Option Td:=(jY n).sV
def aBt{n:Nat}:sV (n+1)=(Gx (jY n) n).1:=rfl
def si:Syntax->jQ->Option Td:=(jY n).si
def aA0{n:Nat}:si (n+1)=(Fa (jY n) n).1:=rfl
def tW:jQ->Syntax->Option Th:=(jY n).tW
def aDQ{n:Nat}:tW (n+1)=(IM (jY n) n).1:=rfl
def qu:jQ->Option TQ:=(jY n).qu
def azi{n:Nat}:qu (n+1)=(DY (jY n) n).1:=rfl
def pI:jQ->Option Td:=(jY n).pI
def auk{n:Nat}:pI (n+1)=(ze (jY n) n).1:=rfl
def qX:jQ->Option Td:=(jY n).qX
def aA1{n:Nat}:qX (n+1)=(Fb (jY n) n).1:=rfl
def rF:jQ->Syntax->Option Th:=(jY n).rF
def aBu{n:Nat}:rF (n+1)=(Gy (jY n) n).1:=rfl
def sW:jQ->Syntax->Option Th:=(jY n).sW
def aBv{n:Nat}:sW (n+1)=(Gz (jY n) n).1:=rfl
def rB:Syntax->TG->kp->jQ->Option Td:=(jY n).rB
def azj{n:Nat}:rB (n+1)=(DZ (jY n) n).1:=rfl
def aBw{n:Nat}:(jY n).nO=nO n/\(jY n).uL=uL n/\(jY n).qW=qW n/\(jY n).uM=uM n/\(jY n).sU=sU n/\(jY n).wh=wh n/\(jY n).tU=tU n/\(jY n).uN=uN n/\(jY n).tV=tV n/\(jY n).sV=sV n/\(jY n).si=si n/\(jY n).tW=tW n/\(jY n).qu=qu n/\(jY n).pI=pI n/\(jY n).qX=qX n/\(jY n).rF=rF n/\(jY n).sW=sW n/\(jY n).rB=rB n:=⟨rfl,rfl,rfl,rfl,rfl,rfl,rfl,rfl,rfl,rfl,rfl,rfl,rfl,rfl,rfl,rfl,rfl,rfl⟩
def lT:∀n:Nat,tG gX 44 (l5 0 kM) jP true jP (l1 (kT Syntax.kr) kM) jP j3 (lf (jY n).nO)/\tG gX 86 (l5 0 (l1 (li .i64) kM)) jP true jP (l1 (kT Syntax.kr) kM) jP j3 (pY (jY n).uL)/\tG gX 90 (l5 0 (l1 lW (l1 lW kM))) jP true jP (l1 (lz ke.row) kM) jP j3 (ut (jY n).qW)/\tG gX 87 (l5 0 (l1 (li .i64) kM)) jP true jP (l1 (kT Syntax.kr) kM) jP j3 (pY (jY n).uM)/\tG gX 92 (l5 0 (l1 (li .i64) kM)) jP true jP (l1 (kT Syntax.kr) kM) jP j3 (pY (jY n).sU)/\tG gX 156 (l5 0 kM) jP true jP (l1 (kT Syntax.kr) kM) jP j3 (lf (jY n).wh)/\tG gX 211 (l5 0 kM) jP true jP (l1 (kT Syntax.kr) kM) jP j3 (lf (jY n).tU)/\tG gX 250 (l5 0 kM) jP true jP (l1 (kT Syntax.kr) kM) jP j3 (lf (jY n).uN)/\tG gX 282 (l5 0 kM) jP true jP (l1 (kT Syntax.kr) kM) jP j3 (lf (jY n).tV)/\tG gX 304 (l5 0 kM) jP true jP (l1 (kT Syntax.kr) kM) jP j3 (lf (jY n).sV)/\tG gX 319 (l5 0 (l1 (kT Syntax.kr) kM)) jP true jP (l1 (kT Syntax.kr) kM) jP j3 (xa (jY n).si)/\tG gX 320 (l5 0 (l5 1 kM)) kX true kX kM kX j3 (pH (jY n).tW)/\tG gX 329 (l5 0 kM) jP true jP (l1 (lz Syntax.row) kM) jP j3 (wg (jY n).qu)/\tG gX 334 (l5 0 kM) jP true jP (l1 (kT Syntax.kr) kM) jP j3 (lf (jY n).pI)/\tG gX 338 (l5 0 kM) jP true jP (l1 (kT Syntax.kr) kM) jP j3 (lf (jY n).qX)/\tG gX 347 (l5 0 (l5 1 kM)) kX true kX kM kX j3 (pH (jY n).rF)/\tG gX 348 (l5 0 (l5 1 kM)) kX true kX kM kX j3 (pH (jY n).sW)/\tG gX 89 sQ jP true jP (l1 (kT Syntax.kr) kM) jP j3 (tE (jY n).rB)
 |0=>⟨fun _ _ _ h=>(by cases h),fun _ _ _ h=>(by cases h),fun _ _ _ h=>(by cases h),fun _ _ _ h=>(by cases h),fun _ _ _ h=>(by cases h),fun _ _ _ h=>(by cases h),fun _ _ _ h=>(by cases h),fun _ _ _ h=>(by cases h),fun _ _ _ h=>(by cases h),fun _ _ _ h=>(by cases h),fun _ _ _ h=>(by cases h),fun _ _ _ h=>(by cases h),fun _ _ _ h=>(by cases h),fun _ _ _ h=>(by cases h),fun _ _ _ h=>(by cases h),fun _ _ _ h=>(by cases h),fun _ _ _ h=>(by cases h),fun _ _ _ h=>(by cases h)⟩
 |n+1=>by
  obtain⟨rC,ak9,MF,ala,agr,amD,ain,alb,aio,ags,aez,aip,KX,S9,MG,aTn,agt,ab3⟩:=lT n
  exact⟨aNI (aDt fun u=>acw ay3 (fun _ _ _ _=>rfl) (jO) (fun b a r h=>(Xe n) b.2.1.1 r h u)) (ID (jY n) n) (gd (jR (qp (nk (uP n))) (jR (qp (MW (zr n))) (jR (oZ (fun b a r h=>(mA n) b.1 r h)) (jR (qp (oQ (pP n))) jU)))) jV (p:=(kz (lc (ak9)) (kz (lc (ala)) (kz (lc (agr)) l7)))) (c:=(nS (AB (nH n)) (nS (AB (ab3)) (nS (AB (MF)) tK))))) func44 ntmps44 results44,
   Et (JX (jY n) n) (gd (jR (oZ (fun b a r h=>(mA n) b.1 r h)) (jR (qp (oQ (pP n))) (jR (oZ (fun b a r h=>(PN n) b.1 r h)) (jR (IS (XY n)) jU)))) jV (p:=(kz (lc (rC)) (kz (lc (nH n)) (kz (lc (MF)) (kz (lc (uC n)) (kz (lc (pS n)) l7))))))) func86 ntmps86 results86,
   Et (E9 (jY n) n) (gd (jR (oZ (fun b a r h=>(mA n) b.1 r h)) (jR (qp (nk (zX n))) (jR (lj (ahc n)) jU))) jV (p:=(kz (lc (rC)) (kz (lc (nH n)) (kz (lc (uC n)) (kz (lc (pS n)) l7)))))) func90 ntmps90 results90,
   Et (JY (jY n) n) (gd (jR (oZ (fun b a r h=>(mA n) b.1 r h)) (jR (oZ (fun b a r h=>(PN n) b.1 r h)) (jR (oZ (fun b a r h=>(nv n) b.1 a.1 r h)) jU))) jV (p:=(kz (lc (rC)) (kz (lc (uC n)) (kz (lc (pS n)) l7))))) func87 ntmps87 results87,
   Et (Gu (jY n) n) (gd (jR (oZ (fun b a r h=>(nv n) b.1 a.1 r h)) (jR (lj (ahc n)) (jR (oZ (fun b a r h=>(abo n) b.1 a.1 r h)) jU))) (k7 (MW (XY n)) jV) (p:=(kz (lc (amD)) l7)) (c:=(nS (AB (rC)) tK))) func92 ntmps92 results92,
   Et (LC (jY n) n) (gd (jR (qp (nk (Jv n))) (jR (qp (nk (L9 n))) (jR (lj (aqJ n)) jU))) jV (p:=(kz (lc (nH n)) (kz (lc (pQ n)) (kz (lc (vQ n)) (kz (lc (ain)) l7)))))) func156 ntmps156 results156,
   Et (II (jY n) n) (gd (jR (qp (nk (uP n))) (jR (oZ (fun b a r h=>(mA n) b.1 r h)) (jR (qp (nk (tM n))) (jR (qp (nk (Jv n))) jU)))) jV (p:=(kz (lc (alb)) l7))) func211 ntmps211 results211,
   Et (alM (jY n) n) (gd (jR (qp (nk (L9 n))) jU) jV (p:=(kz (lc (nH n)) (kz (lc (aio)) l7)))) func250 ntmps250 results250,
   Et (IL (jY n) n) (gd (jR (oZ (fun b a r h=>(mA n) b.1 r h)) (jR (qp (oQ (pP n))) jU)) jV (p:=(kz (lc (nH n)) (kz (lc (ags)) l7))) (c:=(nS (Rz (nk (tM n))) tK))) func282 ntmps282 results282,
   Et (Gx (jY n) n) (gd (jR (qp (nk (uP n))) (jR (oZ (fun b a r h=>(nv n) b.1 a.1 r h)) (jR (qp (nk (tM n))) jU))) jV (p:=(kz (lc (aez)) (kz (lc (aip)) l7)))) func304 ntmps304 results304,
   Et (Fa (jY n) n) (gd (jR (oZ (fun b a r h=>(nv n) b.1 a.1 r h)) (jR (qp (nk (tM n))) jU)) jV (p:=(kz (lc (rC)) (kz (lc (nH n)) (kz (lc (pS n)) l7)))) (c:=(nS (AB (rC)) (nS (Rz (oQ (pP n))) (nS (AB (pQ n)) (nS (Rz (nk (tM n))) tK)))))) func319 ntmps319 results319,
   Et (IM (jY n) n) (gd (jR (qp (MW (zr n))) (jR (oZ (fun b a r h=>(mA n) b.1 r h)) (jR (qp (nk (mP n))) (jR (oZ (fun b a r h=>(nv n) b.1 a.1 r h)) jU)))) jV (p:=(kz (lc (vQ n)) (kz (lc (pS n)) (kz (lc (aek n)) (kz (lc (PY n)) (kz (lc (DE n)) (kz (lc (akQ n)) (kz (lc (KX)) l7))))))))) func320 ntmps320 results320,
   Et (DY (jY n) n) (gd (jR (qp (oQ (pP n))) (jR (oZ (fun b a r h=>(nv n) b.1 a.1 r h)) jU)) jV (p:=(kz (lc (nH n)) (kz (lc (S9)) l7)))) func329 ntmps329 results329,
   Et (ze (jY n) n) (gd (jR (oZ (fun b a r h=>(nv n) b.1 a.1 r h)) jU) jV (p:=(kz (lc (nH n)) (kz (lc (MG)) l7)))) func334 ntmps334 results334,
   aNI (aDt fun u=>acw ay3 (fun _ _ _ _=>rfl) (jO) (fun b a r h=>(Uu n) b.2.1.1 r h u)) (Fb (jY n) n) (gd (jR (qp (oQ (pP n))) (jR (qp (nk (tM n))) jU)) jV (p:=(kz (lc (aTn)) (kz (lc (agt)) l7))) (c:=(nS (AB (nH n)) (nS (Rz (nk (uP n))) (nS (AB (pQ n)) (nS (Rz (nk (mP n))) tK)))))) func338 ntmps338 results338,
   Et (Gy (jY n) n) (gd jU jV (p:=(kz (lc (pS n)) (kz (lc (KX)) l7)))) func347 ntmps347 results347,
   Et (Gz (jY n) n) (gd (jR (oZ (fun b a r h=>(mA n) b.1 r h)) (jR (qp (nk (mP n))) jU)) jV (p:=(kz (lc (rC)) (kz (lc (vQ n)) (kz (lc (uC n)) (kz (lc (PY n)) (kz (lc (MG)) (kz (lc (GZ n)) (kz (lc (aTn)) (kz (lc (Yl n)) l7))))))))) (c:=(nS (AB (nH n)) (nS (avE (abm n)) tK)))) func348 ntmps348 results348,
   Et (DZ (jY n) n) (gd jU (k7 (MW (XY n)) jV) (p:=(kz (lc (pS n)) l7)) (c:=(nS (AB (rC)) tK))) func89 ntmps89 results89⟩
def aiq:tG gX 44 (l5 0 kM) jP true jP (l1 (kT Syntax.kr) kM) jP j3 (lf (nO n)):=(lT n).1
def aDR:tG gX 86 (l5 0 (l1 (li .i64) kM)) jP true jP (l1 (kT Syntax.kr) kM) jP j3 (pY (uL n)):=(lT n).2.1
def azk:tG gX 90 (l5 0 (l1 lW (l1 lW kM))) jP true jP (l1 (lz ke.row) kM) jP j3 (ut (qW n)):=(lT n).2.2.1
def aDS:tG gX 87 (l5 0 (l1 (li .i64) kM)) jP true jP (l1 (kT Syntax.kr) kM) jP j3 (pY (uM n)):=(lT n).2.2.2.1
def aA2:tG gX 92 (l5 0 (l1 (li .i64) kM)) jP true jP (l1 (kT Syntax.kr) kM) jP j3 (pY (sU n)):=(lT n).2.2.2.2.1
def aEk:tG gX 156 (l5 0 kM) jP true jP (l1 (kT Syntax.kr) kM) jP j3 (lf (wh n)):=(lT n).2.2.2.2.2.1
def aBx:tG gX 211 (l5 0 kM) jP true jP (l1 (kT Syntax.kr) kM) jP j3 (lf (tU n)):=(lT n).2.2.2.2.2.2.1
def aDT:tG gX 250 (l5 0 kM) jP true jP (l1 (kT Syntax.kr) kM) jP j3 (lf (uN n)):=(lT n).2.2.2.2.2.2.2.1
def aBy:tG gX 282 (l5 0 kM) jP true jP (l1 (kT Syntax.kr) kM) jP j3 (lf (tV n)):=(lT n).2.2.2.2.2.2.2.2.1
def aA3:tG gX 304 (l5 0 kM) jP true jP (l1 (kT Syntax.kr) kM) jP j3 (lf (sV n)):=(lT n).2.2.2.2.2.2.2.2.2.1
def azl:tG gX 319 (l5 0 (l1 (kT Syntax.kr) kM)) jP true jP (l1 (kT Syntax.kr) kM) jP j3 (xa (si n)):=(lT n).2.2.2.2.2.2.2.2.2.2.1
def aBz:tG gX 320 (l5 0 (l5 1 kM)) kX true kX kM kX j3 (pH (tW n)):=(lT n).2.2.2.2.2.2.2.2.2.2.2.1
def ayg:tG gX 329 (l5 0 kM) jP true jP (l1 (lz Syntax.row) kM) jP j3 (wg (qu n)):=(lT n).2.2.2.2.2.2.2.2.2.2.2.2.1
def asZ:tG gX 334 (l5 0 kM) jP true jP (l1 (kT Syntax.kr) kM) jP j3 (lf (pI n)):=(lT n).2.2.2.2.2.2.2.2.2.2.2.2.2.1
def azm:tG gX 338 (l5 0 kM) jP true jP (l1 (kT Syntax.kr) kM) jP j3 (lf (qX n)):=(lT n).2.2.2.2.2.2.2.2.2.2.2.2.2.2.1
def aA4:tG gX 347 (l5 0 (l5 1 kM)) kX true kX kM kX j3 (pH (rF n)):=(lT n).2.2.2.2.2.2.2.2.2.2.2.2.2.2.2.1
def aA5:tG gX 348 (l5 0 (l5 1 kM)) kX true kX kM kX j3 (pH (sW n)):=(lT n).2.2.2.2.2.2.2.2.2.2.2.2.2.2.2.2.1
def ayh:tG gX 89 sQ jP true jP (l1 (kT Syntax.kr) kM) jP j3 (tE (rB n)):=(lT n).2.2.2.2.2.2.2.2.2.2.2.2.2.2.2.2.2
open Go.Proofs
@[reducible] def ayi:kL Bool:=mU gX f47 n (lR gX [.tmp 2] mh) (cl:=lY [(25,nh (lz jS.row) mh (aan n)),(48,nr (lz kW) (li .i64) mh (FU n)),(95,nh (lz ky.row) mh (agc n))])
def ab4:IT (ayi n) (kT kI.kr) 21:=mB
def aav:=fu fun n=>(ab4 n).1
def awH:∀n:Nat,tL gX 47 (kT kI.kr) mh (aav n):=vD fun n=>uy (ab4 n) (gd (jR (lA (awB n)) (jR (lj (QU n)) (jR (lA (ayc n)) jU))) jV) func47 ntmps47 results47
def Qf:sN:=⟨[],[(3,5,8)],(zT (uO j4.kr)::zA::zK::zA::zK::zA::zK::zA::zA::zA::zK::zK::zA::zA::zK::ux (ux (lH (lH (l8 (l8 (l8 (zA::zA::[])))))))),[oT jX.kr,oK,oD,oC [zK,zK,zK,zK,zK,zK,zK,zK],oA jZ.row,oA Syntax.row],none,none⟩
def Qg:sN:=⟨[],[(3,4,2)],(zT (uO j4.kr)::zA::zK::zA::zK::zA::zK::zA::zA::zA::zK::zK::zK::ux (ux (lH (lH (lH []))))),[oT jX.kr,oK,oD,oC [zK,zK,zK,zK,zK,zK,zK,zK],oA jZ.row],none,none⟩
@[reducible] def wj(X:j4->jX->Int->Option (Syntax×Int))(n:Nat):kL (Syntax×Int):=mU gX f57 n (lR gX [.cell 6 37,.tmp 7] (LQ (kT Syntax.kr) (li .i64))) (cl:=lY [(57,Qw (uO j4.kr) (kT jX.kr) (li .i64) (LQ (kT Syntax.kr) (li .i64)) X),(104,nh (kT jX.kr) (LQ (kT jX.kr) (lz jX.row)) (Lc n)),(105,nh (li .i64) (li .i64) (qD n)),(106,Qw (uO j4.kr) (li .i64) (li .i64) (LQ lW (li .i64)) (uo n)),(108,nr (uO j4.kr) (li .i64) lW (zt n)),(109,nr (kT jX.kr) (li .i64) mh (Z9 n)),(110,nr (uO j4.kr) (kT kE.kr) (LQ (kT jZ.kr) (li .i64)) (uH n))]) (cd:=yA [(107,oV (nr (uO j4.kr) lW (li .i64) (Ac n)))]) (p4:=nR [([0,1,0,1,1,1,1,1,1],Qf),([0,1,0,1,1,1,1,1],Qg)]) (tI:=lS []) (tX:=lS [])
def alc(X:j4->jX->Int->Option (Syntax×Int))(n:Nat):qY (wj X n) [0,1,1,1,0,1,0,1,1,1,1]=true:=jO
def ald(X:j4->jX->Int->Option (Syntax×Int))(n:Nat):vL (wj X n) [0,1,1,1,0,1,0,1,1,1,1] 1 7 4 7 1 9 4 9/\MV (wj X n) [0,1,1,1,0,1,0,1,1,1,1] 7 9=true:=⟨⟨jO,jO,jO,jO⟩,jO⟩
attribute [go_sem] alc ald Qf Qg
abbrev Qh(v0:j4)(v1 v2 v3:Int)(o0:jX)(v5:Int)(v6:kp)(v7:Int)(r4:List jZ)(r5:List Syntax)(c4:Nat)(c5:Nat):jT:=⟨(.pp (j4.cells v0)::qA::.int .i64 v1::qA::.ptr 0 0::qA::.ptr 1 0::qA::qA::qA::.ptr 3 0::.int .i64 v2::qA::qA::.int .i64 v3::uw (uw (lM (lM (mc (mc (mc (qA::qA::[])))))))),[.cells (jX.cells o0),.cells [.int .i64 0,.str (sb []),.int .i64 0,.kJ true 0 [],.kJ true 0 [],.kJ true 0 [],.int .i64 0,.int .i64 0],.vz,.cells [.int .i64 v5,.str (sb v6),.int .i64 v7,.kJ true 0 [],.lV 4 c4,.lV 5 c5,.int .i64 0,.int .i64 0],.lV true 2 (mp jZ.cells r4),.lV true 8 (mp Syntax.cells r5)],0,[]⟩
abbrev Qi:List Kt:=[.pF 3,.cut [1,1,1,1,1,1,1],.at [1,1,1,1,1,1,1]]
abbrev Qj:=j4->Int->Int->Int->jX->Int->kp->Int->Tj->(List Syntax)->Option (Syntax×Int)
abbrev air(X:j4->jX->Int->Option (Syntax×Int))(n:Nat)(K:List Kt)(Z:Qj):Prop:=∀v0 v1 v2 v3 o0 v5 v6 v7 r4 r5 c4 c5,c4=r4.length->c5=r5.length->run (wj X n) K (Qh v0 v1 v2 v3 o0 v5 v6 v7 r4 r5 c4 c5)=Z v0 v1 v2 v3 o0 v5 v6 v7 r4 r5
abbrev Qk(v0:j4)(v1 v2 v3:Int)(o0:jX)(v5:Int)(v6:kp)(v7:Int)(r4:List jZ)(c4:Nat):jT:=⟨(.pp (j4.cells v0)::qA::.int .i64 v1::qA::.ptr 0 0::qA::.ptr 1 0::qA::qA::qA::.ptr 3 0::.int .i64 v2::.int .i64 v3::uw (uw (lM (lM (lM []))))),[.cells (jX.cells o0),.cells [.int .i64 0,.str (sb []),.int .i64 0,.kJ true 0 [],.kJ true 0 [],.kJ true 0 [],.int .i64 0,.int .i64 0],.vz,.cells [.int .i64 v5,.str (sb v6),.int .i64 v7,.kJ true 0 [],.lV 4 c4,.kJ true 0 [],.int .i64 0,.int .i64 0],.lV true 2 (mp jZ.cells r4)],0,[]⟩
abbrev Ql:=j4->Int->Int->Int->jX->Int->kp->Int->Tj->Option (Syntax×Int)
abbrev ais(X:j4->jX->Int->Option (Syntax×Int))(n:Nat)(K:List Kt)(Z:Ql):Prop:=∀v0 v1 v2 v3 o0 v5 v6 v7 r4 c4,c4=r4.length->run (wj X n) K (Qk v0 v1 v2 v3 o0 v5 v6 v7 r4 c4)=Z v0 v1 v2 v3 o0 v5 v6 v7 r4
attribute [go_sem] Qh Qi Qk
def s9(X:j4->jX->Int->Option (Syntax×Int))(n:Nat):LB (air X n) [0,1,0,1,1,1,1,1,1] Qi:=mB
def pe(X:j4->jX->Int->Option (Syntax×Int))(n:Nat):Nat->Qj:=sR ((s9 X n).1)
def yU(X:j4->jX->Int->Option (Syntax×Int)){n:Nat}:pe X n (m+1)=(s9 X n).1 (pe X n m):=rfl
@[go_sem]def ab5(X:j4->jX->Int->Option (Syntax×Int))(n:Nat)(m:Nat):=ud (s9 X n) (pe X n) m
def uT(X:j4->jX->Int->Option (Syntax×Int))(n:Nat):LB (ais X n) [0,1,0,1,1,1,1,1] [.pF 1,.cut [1,1,1,1,1,1],.at [1,1,1,1,1,1]]:=mB
def pT(X:j4->jX->Int->Option (Syntax×Int))(n:Nat):Nat->Ql:=sR ((uT X n).1)
def D0(X:j4->jX->Int->Option (Syntax×Int)){n:Nat}:pT X n (m+1)=(uT X n).1 (pT X n m):=rfl
@[go_sem]def ab6(X:j4->jX->Int->Option (Syntax×Int))(n:Nat)(m:Nat):=ud (uT X n) (pT X n) m
def mE(X:j4->jX->Int->Option (Syntax×Int))(n:Nat):SC3 (wj X n) (uO j4.kr) (kT jX.kr) (li .i64) 189:=mB
def kN:Nat->j4->jX->Int->Option (Syntax×Int)
 |0,_,_,_=>none
 |n+1,a0,a1,a2=>(mE (kN n) n).1 a0 a1 a2
def Qm:∀n:Nat,apD gX 57 (uO j4.kr) (kT jX.kr) (li .i64) (LQ (kT Syntax.kr) (li .i64)) (kN n)
 |0=>fun _ _ _ _ h=>(by cases h)
 |n+1=>by
  have ait:=Qm n;exact avJ (mE (kN n) n) (gd (jR (IS (ait)) (jR (lA (aoe n)) (jR (lA (arE n)) (jR (IS (aSX n)) (jR (lj (N5 n)) (jR (lj (awq n)) (jR (lj (af4 n)) jU))))))) (k7 (oQ (Za n)) jV)) func57 ntmps57 results57
open Go.Proofs
@[reducible] def aqK:kL Bool:=mU gX f15 n (lR gX [.tmp 2] mh) (cl:=lY [(47,nh (kT kI.kr) mh (aav n)),(48,nr (lz kW) (li .i64) mh (FU n)),(49,nh (lz jX.row) mh (Mr n)),(50,aJJ (kT jX.kr) (li .i64) (li .i64) (li .i64) (li .i64) (li .i64) (Ik n))])
def Pa:IT (aqK n) (kT kA.kr) 34:=mB
def Lj:=fu fun n=>(Pa n).1
def aoI:∀n:Nat,tL gX 15 (kT kA.kr) mh (Lj n):=vD fun n=>uy (Pa n) (gd (jR (lA (awH n)) (jR (lj (QU n)) (jR (lA (aqr n)) (jR (aGP (akj n)) jU)))) jV) func15 ntmps15 results15
@[reducible] def ale:kL (Syntax×Int):=mU gX f17 n (lR gX [.cell 8 37,.tmp 9] (LQ (kT Syntax.kr) (li .i64))) (cl:=lY [(57,Qw (uO j4.kr) (kT jX.kr) (li .i64) (LQ (kT Syntax.kr) (li .i64)) (kN n))]) (cd:=yA [(55,oV (nh (lz jS.row) (lz kW) (Am n))),(56,oV (nh (kT jX.kr) (lz kW) (aaa n)))]) (cut:=MJ [([1,1],[3])]) (tI:=lS []) (tX:=lS [])
@[go_sem]def awI:qY (ale n) [0,1]=true:=jO
def YC:SC4 (ale n) (kT kI.kr) (lz kW) (lz kW) (kT jX.kr) 26:=mB
def Pb:=fu fun n=>(YC n).1
def ahD:∀n:Nat,aDy gX 17 (kT kI.kr) (lz kW) (lz kW) (kT jX.kr) (LQ (kT Syntax.kr) (li .i64)) (Pb n):=aM2 fun n=>aKG (YC n) (gd (jR (IS (Qm n)) jU) (k7 (nk (JI n)) (k7 (nk (awr n)) jV))) func17 ntmps17 results17
@[reducible] def anC:kL TW:=mU gX f13 n (aMQ (WQ [(41,Ps [.arg 0 [],.arg 1 [],.arg 2 []] kG (l5 0 (l5 1 (l5 2 kM))) kG kM (fun(b:Tl)(a:Unit)=>(IZ n) b.1.1 b.2.1.1 b.2.2.1.1))]) (WQ [(41,Ps [.arg 0 [],.arg 1 [],.arg 2 []] kG xb kG kM (fun(b:Tl)(a:T8)=>(I6 n) a.1 b.1.1 b.2.1.1 b.2.2.1.1))]) gX [.cell 4 37,.cell 5 3,.cell 6 28] (ty3 (kT Syntax.kr) (li .i64) (li .i64))) (q6:=aG2 (WQ [(41,Ps [.arg 0 [],.arg 1 [],.arg 2 []] kG (l5 0 (l5 1 (l5 2 kM))) kG kM (fun(b:Tl)(a:Unit)=>(IZ n) b.1.1 b.2.1.1 b.2.2.1.1))]) (WQ [(41,Ps [.arg 0 [],.arg 1 [],.arg 2 []] kG xb kG kM (fun(b:Tl)(a:T8)=>(I6 n) a.1 b.1.1 b.2.1.1 b.2.2.1.1))]) gX [.cell 4 37,.cell 5 3,.cell 6 28] (ty3 (kT Syntax.kr) (li .i64) (li .i64))) (cp:=AC [(43,Yr (aed n)),(44,nD (nO n)),(45,Ou (SB n))]) (wD:=lS [43,44,45])
def anD:{B:kp->(List jS)->Option TW //∀(a0:kp)(a1:(List jS)),run (anC n) [.at []] (ini [lW.enc a0,(lz jS.row).enc a1] 23)=B a0 a1}:=mB2
def as0:=fu fun n=>(anD n).1
def awJ:∀(n:Nat)(a0:kp)(a1:(List jS))(r:TW),as0 n a0 a1=some r->JE gX 13 [lW.enc a0,(lz jS.row).enc a1] (fun v=>v=(ty3 (kT Syntax.kr) (li .i64) (li .i64)).enc r)
 |0,_,_,_,h=>by cases h
 |n+1,a0,a1,r,h=>by
  exact aDh (M:=anC n) (t:=(ty3 (kT Syntax.kr) (li .i64) (li .i64))) (cr:=(WQ [(41,Ps [.arg 0 [],.arg 1 [],.arg 2 []] kG (l5 0 (l5 1 (l5 2 kM))) kG kM (fun(b:Tl)(a:Unit)=>(IZ n) b.1.1 b.2.1.1 b.2.2.1.1))])) (cp:=(WQ [(41,Ps [.arg 0 [],.arg 1 [],.arg 2 []] kG xb kG kM (fun(b:Tl)(a:T8)=>(I6 n) a.1 b.1.1 b.2.1.1 b.2.2.1.1))])) ⟨jU,jV,oX _,pJ _,q7,q8,(kz (lc (amy n)) (kz (lc (aiq n)) (kz (lc (adX n)) l7))),rH⟩ (MY (acw arm (fun _ _ _ _=>rfl) (jO) (fun b a r h=>(al5 n) b.1.1 b.2.1.1 b.2.2.1.1 r h)) Ry) (MY (acw arn (fun _ _ _ _=>rfl) (jO) (fun b a r h=>(amb n) a.1 b.1.1 b.2.1.1 b.2.2.1.1 r h)) Ry) func13 rfl rfl ⟨lW.nb 0 _,(lz jS.row).nb 0 _,trivial⟩ ntmps13 results13 rfl rfl (((anD n).2 a0 a1).trans h)
open Go.Proofs
@[reducible] def ahE:kL (kp×Int):=mU gX f27 n (lR gX [.tmp 4,.tmp 5] (LQ lW (li .i64))) (cl:=lY [(13,nr lW (lz jS.row) (ty3 (kT Syntax.kr) (li .i64) (li .i64)) (as0 n)),(69,nh (lz jS.row) mh (ahB n)),(71,oe (qE n)),(72,Kf (M2 n))]) (cd:=yA [(55,oV (nh (lz jS.row) (lz kW) (Am n))),(70,oV (nr (lz kW) (kT Syntax.kr) (li .i64) (nQ n)))]) (tI:=lS []) (tX:=lS [])
@[go_sem]def aul:qY (ahE n) [0,0,1,1]=true:=jO
def ahF:IO (ahE n) (lz jS.row) (kT Syntax.kr) 47:=by
 apply Subtype.mk;intro a0 a1;simp (config:={maxSteps:=100000000}) only[go_sem,Nat.reduceAdd,Nat.reduceSub,Nat.reduceLeDiff,Nat.reduceEqDiff,Nat.reduceBEq,Nat.reduceMul,Nat.reduceLT,Int.reduceLE,Int.reduceLT,Int.reduceToNat,Int.reduceBEq,Int.reduceEq,f27,Option.getD_some,mixed,Value.oneCell',Bool.and_self,eq_self,jN];exact rfl
def ab7:=fu fun n=>(ahF n).1
def aeA:∀n:Nat,th gX 27 (lz jS.row) (kT Syntax.kr) (LQ lW (li .i64)) (ab7 n):=vM fun n=>ug (ahF n) (gd (jR (lj (awJ n)) (jR (lA (aoH n)) (jR (mY (agh n)) (jR (mY (fun b a r h=>(YM n) b.1.1 b.1.2.1 b.2.1 r h)) jU)))) (k7 (nk (JI n)) (k7 (oQ (OP n)) jV))) func27 ntmps27 results27
open Go.Proofs
@[reducible] def Rl:kL Bool:=mU gX f16 n (lR gX [.tmp 0] mh) (cl:=lY [(17,apl (kT kI.kr) (lz kW) (lz kW) (kT jX.kr) (LQ (kT Syntax.kr) (li .i64)) (Pb n)),(27,nr (lz jS.row) (kT Syntax.kr) (LQ lW (li .i64)) (ab7 n))]) (cd:=yA [(27,oV (nr (lz jS.row) (kT Syntax.kr) (LQ lW (li .i64)) (ab7 n))),(51,oV (nh (li .i64) (kT jX.kr) (amY n))),(52,oV (nh lW (kT Syntax.kr) (abc n))),(53,oV (nr (kT Syntax.kr) (kT Syntax.kr) (kT Syntax.kr) (abd n))),(54,oV (apl (kT Syntax.kr) (kT Syntax.kr) (uO (cF 53)) (uO (cF 52)) (kT Syntax.kr) (ana n)))]) (cut:=MJ [([1,1,1,1,1,1,1,1,1,1],[4,3])]) (tI:=lS []) (tX:=lS [])
@[go_sem]def ayj:aF3 (Rl n) [0,1,1,1] [0,1,1,1,1,1,1,1,1,1,1] [0,1,1,1,1,1,1,1,1,1,1,1] [0,1,1,1,1,1,1,1,1,1,1,1,1]:=⟨jO,jO,jO,jO⟩
@[go_sem]def ayk:axu (Rl n) [0,1,1,1] 0 10 9 10/\vL (Rl n) [0,1,1,1,1,1,1,1,1,1,1,1,1] 0 11 2 11 6 11 10 11:=⟨⟨jO,jO⟩,jO,jO,jO,jO⟩
def anE:SC0 (Rl n) 125:=mB
def aaw:=fu fun n=>(anE n).1
def awK:∀n:Nat,aIq gX 16 mh (aaw n):=aO1 fun n=>aO0 (anE n) (gd (jR (apn (ahD n)) (jR (lj (aeA n)) jU)) (k7 (oQ (aeA n)) (k7 (nk (arJ n)) (k7 (nk (acU n)) (k7 (oQ (acV n)) (k7 (apo (arU n)) jV)))))) func16 ntmps16 results16
open Go.Proofs
@[reducible] def alf:kL Bool:=mU gX f4 n (lR gX [.tmp 2] mh) (cl:=lY [(15,nh (kT kA.kr) mh (Lj n)),(16,aCG mh (aaw n)),(17,apl (kT kI.kr) (lz kW) (lz kW) (kT jX.kr) (LQ (kT Syntax.kr) (li .i64)) (Pb n)),(18,apl (kT kI.kr) (lz kW) (lz kW) (kT jX.kr) (LQ (kT Syntax.kr) (li .i64)) (af7 n)),(19,Qw (kT Syntax.kr) (kT Syntax.kr) mh mh (vO n))])
def IN:IT (alf n) (kT kA.kr) 46:=mB
def Ff:=fu fun n=>(IN n).1
def aBA:∀n:Nat,tL gX 4 (kT kA.kr) mh (Ff n):=vD fun n=>uy (IN n) (gd (jR (lA (aoI n)) (jR (apm (awK n)) (jR (apn (ahD n)) (jR (apn (ax8 n)) (jR (IS (aj7 n)) jU))))) jV) func4 ntmps4 results4
end Go.Abs
end
