/- A part of the proof: what the functions compute. -/
import Derived.Test.YtpdbjkgnmjnebaaGreatDoorDataA
import Derived.Test.YtpdbjkgnmjnebaaGreatDoorExtA
import Derived.Test.YtpdbjkgnmjnebaaGreatDoorWalkA
import Derived.Test.YtpdbjkgnmjnebaaGreatDoorWalkB
import Derived.Test.YtpdbjkgnmjnebaaGreatDoorWalkC
set_option linter.all false
open Go.Proofs.Tryz renaming prog→gi
open Go.Abs.AV renaming any→qA
noncomputable section
open Go.Proofs.Tryz
namespace Go.Abs
open Go.Proofs
attribute [go_sem] f8 f3
set_option maxRecDepth 100000
set_option maxHeartbeats 4000000
@[reducible] def Zz(n:Nat):kG (Str×Int):=oN gi f27 n (oB gi [.tmp 4,.tmp 5] (ty2 mq (mP .i64))) (cl:=nE [(13,tj mq (l8 jI.row) (ty3 (lD Syntax.kv) (mP .i64) (mP .i64)) (Kq n)),(69,oI (l8 jI.row) nD (Zx n)),(71,nO (qt n)),(72,IC (KO n))]) (cd:=M5 [(55,rq (oI (l8 jI.row) (l8 mc) (Ac n))),(70,rq (tj (l8 mc) (lD Syntax.kv) (mP .i64) (mU n)))]) (xy:=mE []) (xF:=mE [])
@[go_sem]def aiw(n:Nat):wV (Zz n) [0,0,1,1]=true:=jF
def ZA(n:Nat):SC2 (Zz n) (l8 jI.row) (lD Syntax.kv) 47:=by
 apply Subtype.mk;intro a0 a1;simp (config:={maxSteps:=100000000}) only[go_sem,Nat.reduceAdd,Nat.reduceSub,Nat.reduceLeDiff,Nat.reduceEqDiff,Nat.reduceBEq,Nat.reduceMul,Nat.reduceLT,Int.reduceLE,Int.reduceLT,Int.reduceToNat,Int.reduceBEq,Int.reduceEq,f27,Option.getD_some,mixed,Value.oneCell',Bool.and_self,eq_self,jE];exact rfl
def ad0:=fu fun n=>(ZA n).1
def agW:∀n:Nat,Fk gi 27 (l8 jI.row) (lD Syntax.kv) (ty2 mq (mP .i64)) (ad0 n):=Ks fun n=>Iz (ZA n) (gd (jL (nT (Rt n)) (jL (lK (aeB n)) (jL (mS (YO n)) (jL (mS (fun b a r h=>(RN n) b.1.1 b.1.2.1 b.2.1 r h)) jP)))) (nf (mV (Pt n)) (nf (wu (Lu n)) jQ))) func27 ntmps27 results27
open Go.Proofs
@[reducible] def ZB(n:Nat):kG Bool:=oN gi f8 n (oB gi [.tmp 0] nD) (cl:=nE [(13,tj mq (l8 jI.row) (ty3 (lD Syntax.kv) (mP .i64) (mP .i64)) (Kq n)),(14,acL (lD Syntax.kv) (lD Syntax.kv) nD nD (vq n)),(32,tj mq (l8 Syntax.row) (lD Syntax.kv) (ake n)),(33,oI mq (lD Syntax.kv) (aaR n)),(34,ajE (l8 jI.row) (XO n))]) (cd:=M5 [(27,rq (tj (l8 jI.row) (lD Syntax.kv) (ty2 mq (mP .i64)) (ad0 n))),(34,rq (ajE (l8 jI.row) (XO n)))]) (xy:=mE []) (xF:=mE [])
@[go_sem]def aix(n:Nat):wV (ZB n) [0,1,1]=true:=jF
def ZC(n:Nat):SC0 (ZB n) 56:=mB
def Fh:=fu fun n=>(ZC n).1
def agX:∀n:Nat,atX gi 8 nD (Fh n):=aB3 fun n=>aB2 (ZC n) (gd (jL (nT (Rt n)) (jL (aiK (QT n)) (jL (nT (alG n)) (jL (lK (aaS n)) (jL (afb (aJr n)) jP))))) (nf (wu (agW n)) (nf (ayi (aJr n)) jQ))) func8 ntmps8 results8
open Go.Proofs
@[reducible] def aJA(n:Nat):kG Bool:=oN gi f3 n (oB gi [.tmp 6] nD) (cl:=nE [(7,oI (l8 jI.row) nD (Yw n)),(8,ajE nD (Fh n)),(9,tj (l8 jI.row) (lD jI.kv) (ty2 (l8 jI.row) (mP .i64)) (Hx n)),(10,sV (n4 n)),(13,tj mq (l8 jI.row) (ty3 (lD Syntax.kv) (mP .i64) (mP .i64)) (Kq n)),(14,acL (lD Syntax.kv) (lD Syntax.kv) nD nD (vq n))]) (cut:=aaH [([1,0,1,1,1],[0])])
def Dp(n:Nat):SC3 (aJA n) mq (l8 jI.row) (lD jI.kv) 69:=mB
def FF:=fu fun n=>(Dp n).1
def al3:∀n:Nat,atY gi 3 mq (l8 jI.row) (lD jI.kv) nD (FF n):=aEI fun n=>aB4 (Dp n) (gd (jL (lK (alX n)) (jL (afb (agX n)) (jL (nT (Zw n)) (jL (mS (y9 n)) (jL (nT (Rt n)) (jL (aiK (QT n)) jP)))))) jQ) func3 ntmps3 results3
end Go.Abs
end
