/- A part of the proof: what the functions compute. -/
import Derived.Test.YtdkeelhebopgkaaGreatDoorDataA
import Derived.Test.YtdkeelhebopgkaaGreatDoorWalkB
import Derived.Test.YtdkeelhebopgkaaGreatDoorWalkA
set_option linter.all false
open Nat renaming reduceLeDiff → jA,reduceEqDiff → jB,reduceAdd → jE,reduceSub → jF,reduceBEq → jG,reduceMul → jH,reduceLT → jJ
open Option renaming getD_some → jC
open Int renaming reduceToNat → jD,reduceBEq → jI,reduceLE → jK,reduceLT → jL,reduceEq → jM
open Subtype renaming mk → jN
open Go.Abs.AV renaming any → qA
namespace Go.Abs
open Go.Proofs
set_option maxRecDepth 100000
set_option maxHeartbeats 4000000
noncomputable def tg:DO:=⟨[],[],(zK::zK::zA::zA::zK::nr (nr (zA::zA::[]))),[oT kN.cel,oC [zK],oC [zK],oA kR.row],none,none⟩
@[reducible] noncomputable def p7 (X:lu) (n:Nat):lF Tz:=qv Tryz.prog Tryz.f177 n (p9 Tryz.prog [] [] [0,1,2,3] 4 mG kZ) (cl:=oS [(122,entG [0] (wP (Ay kN.cel) vc) (Od 0 (XB nh L3)) (wP (Ay kN.cel) vc) (NI pQ Ke) (fun (b:Tb) a=>(mz n) b.1 a.1))]) (wU:=vR [([0,1],tg)]) (pJ:=qa [] [0,1,2,3] 4 mH mI) (cp:=z6 [(72,ng (mJ n)),(288,G8 X.pR)]) (Ab:=mU [72,288])
attribute [go_sem] tg
noncomputable abbrev pK (v0:Int) (o0:kN) (r3:List kR) (c3:Nat):AState:=⟨(.ptr 0 0:: .func (.func 288) [] [.ptr 1 0,.ptr 2 0]::qA::qA:: .int .i64 v0::nQ (nQ (qA::qA::[]))),[.cells (kN.cells o0),.cells [.acc 3 c3],.cells [.ptr 0 0],.acc false 2 (mp kR.cells r3)],4,[]⟩
abbrev nN:=Int→kN→(List kR)→Option Tz
abbrev pL (X:lu) (n:Nat) (K:List Kt) (Z:nN):Prop:= ∀ (v0:Int) (o0:kN) (r3:List kR) (c3:Nat),c3=r3.length→run (p7 X n) K (pK v0 o0 r3 c3)=Z v0 o0 r3
attribute [go_sem] pK
noncomputable def pM (X:lu) (n:Nat):{B:nN→nN // ∀m X0,pL X n (.lq m [0,1]::[.blk 0]) X0→ ∀ (v0:Int) (o0:kN) (r3:List kR),run (p7 X n) (.at [0,0,1]:: .lp m [0,1]::[.blk 0]) (pK v0 o0 r3 (r3.length))=B X0 v0 o0 r3}:=by
 apply jN
 intro m X0 ih v0 o0 r3
 simp (config:={maxSteps:=100000000,implicitDefEqProofs:=false}) only[go_sem,jE,jF,jA,jB,jG,jH,jJ,jK,jL,jD,jI,jM,Tryz.f177,jC,mixed,ih]
 exact rfl
noncomputable def pN (X:lu) (n:Nat):Nat→nN:=FH ((pM X n).1)
theorem NW (X:lu) {n:Nat} {m:Nat}:pN X n (m+1)=(pM X n).1 (pN X n m):=rfl
theorem Aa (X:lu) (n:Nat) (m:Nat):pL X n (.lq m [0,1]::[.blk 0]) (pN X n m):=
 mB (G:=fun m Z=>pL X n (.lq m [0,1]::[.blk 0]) Z) (fun _ _ _ _ _=>k7) (fun m _ ih=>by
  intro v0 o0 r3 c3 ec3
  subst ec3
  rw[k8]
  exact (pM X n).2 _ _ ih v0 o0 r3) m
noncomputable def p8 (X:lu) (n:Nat):{B:kN→(List kR)→Option Tz // ∀ (o0:kN) (o1:(List kR)),run (p7 X n) [.at []] (s8 mE mF ((o0,()),(),(),o1,()) ((),()) 15)=B o0 o1}:=by
 apply jN
 intro o0 o1
 simp (config:={maxSteps:=100000000,implicitDefEqProofs:=false}) only[go_sem,jE,jF,jA,jB,jG,jH,jJ,jK,jL,jD,jI,jM,Tryz.f177,jC,mixed,Aa X n]
 exact rfl
end Go.Abs
namespace Go.Abs
open Go.Proofs
set_option maxRecDepth 100000
set_option maxHeartbeats 4000000
@[reducible] noncomputable def mq (X:lu) (n:Nat):lF TB:=qv Tryz.prog Tryz.f288 n (p9 Tryz.prog [] [] [0,1,2,3] 4 sR kZ) (pJ:=qa [] [0,1,2,3] 4 sS sU) (co:=Na [(281,GK [.arg 0 []] rX (lT 0 kZ) rZ (lM (nj kR.row) kZ) r9 sj (fun (b:T0) (a:Unit)=>X.pW b.1.1))]) (AZ:=mU [281]) (AY:=mU [])
theorem PN (X:lu) (n:Nat):nP (mq X n) []=true:=by kernel_rfl
theorem PO (X:lu) (n:Nat):lS (mq X n) [] 1 2=true∧lS (mq X n) [] 0 3=true∧lS (mq X n) [] 1 3=true∧lS (mq X n) [] 2 3=true∧lS (mq X n) [] 0 4=true∧lS (mq X n) [] 1 4=true∧lS (mq X n) [] 2 4=true∧lS (mq X n) [] 3 4=true:=⟨by kernel_rfl,by kernel_rfl,by kernel_rfl,by kernel_rfl,by kernel_rfl,by kernel_rfl,by kernel_rfl,by kernel_rfl⟩
theorem PS (X:lu) (n:Nat):Gq (mq X n) [] 2 3=true∧Gq (mq X n) [] 2 4=true:=⟨by kernel_rfl,by kernel_rfl⟩
attribute [go_sem] PN PO PS
noncomputable def BQ (X:lu) (n:Nat):{B:(List kR)→kN→Option TB // ∀ (o0:(List kR)) (o1:kN),run (mq X n) [.at []] (s8 (lT 0 (lT 1 kZ)) sQ ((),(),o0,(o1,()),()) () 6)=B o0 o1}:=by
 apply jN
 intro o0 o1
 simp (config:={maxSteps:=100000000,implicitDefEqProofs:=false}) only[go_sem,jE,jF,jA,jB,jG,jH,jJ,jK,jL,jD,jI,jM,Tryz.f288,jC,mixed]
 exact rfl
end Go.Abs
namespace Go.Abs
open Go.Proofs
set_option maxRecDepth 100000
set_option maxHeartbeats 4000000
noncomputable def lJ:Nat→lu
 |0=>⟨Fu.z,Fu.z,Fu.z⟩
 |n+1=>⟨(Dg (lJ n) n).1,(p8 (lJ n) n).1,(BQ (lJ n) n).1⟩
noncomputable def pW (n:Nat):kN→Option Ts:=(lJ n).pW
theorem parser_parser_atoms_s {n:Nat}:pW (n+1)=(Dg (lJ n) n).1:=rfl
noncomputable def lQ (n:Nat):kN→(List kR)→Option Tz:=(lJ n).lQ
theorem PT {n:Nat}:lQ (n+1)=(p8 (lJ n) n).1:=rfl
noncomputable def pR (n:Nat):(List kR)→kN→Option TB:=(lJ n).pR
theorem parser_parser_atoms_1_s {n:Nat}:pR (n+1)=(BQ (lJ n) n).1:=rfl
theorem parser_parser_atoms_qq {n:Nat}:(lJ n).pW=pW n∧(lJ n).lQ=lQ n∧(lJ n).pR=pR n:=⟨rfl,rfl,rfl⟩
theorem xQ: ∀n:Nat,(∀ (o0:kN) (r:Ts),(lJ n).pW o0=some r→SP Tryz.prog 281 (lT 0 kZ) rX ((o0,()),()) () true rZ (lM (nj kR.row) kZ) r9 sj r)∧(∀ (o0:kN) (o1:(List kR)) (r:Tz),(lJ n).lQ o0 o1=some r→SP Tryz.prog 177 mE mF ((o0,()),(),(),o1,()) ((),()) true mG kZ mH mI r)∧(∀ (o0:(List kR)) (o1:kN) (r:TB),(lJ n).pR o0 o1=some r→SP Tryz.prog 288 (lT 0 (lT 1 kZ)) sQ ((),(),o0,(o1,()),()) () true sR kZ sS sU r)
 |0=>⟨fun _ _ h=>(by cases h),fun _ _ _ h=>(by cases h),fun _ _ _ h=>(by cases h)⟩
 |n+1=>by
  obtain ⟨Q2,AX,OK⟩:=xQ n
  exact ⟨fun o0 r h=>Qv (((Dg (lJ n) n).2 o0).trans h) (gdM (kV (oa (nG (lZ n))) (kV (oa (nG (sJ n))) (kV (oI (fun b a r h=>(lU n) b.1 r h)) (kV (oI (fun b a r h=>(me n) b.1 a.1 r h)) kW)))) kX (p:=(kY (ld (fun b a r h=>(nT n) a.1 b.1.1 r h)) (kY (ld (fun b a r h=>(BP n) b.1.1 r h)) (kY (ld (fun b a r h=>(AX) b.1.1 b.2.2.2.1 r h)) (kY (ld (fun b a r h=>(DH n) b.1.1 r h)) lP))))) (c:=(mW (Kh (Mq (yg n))) tA))) Tryz.func281 Tryz.ntmps281 Tryz.results281,
   fun o0 o1 r h=>Qv (((p8 (lJ n) n).2 o0 o1).trans h) (gd (kV (oI (fun b a r h=>(me n) b.1 a.1 r h)) kW) kX (p:=(kY (ld (fun b a r h=>(mm n) a.1 b.1.1 r h)) (kY (ld (fun b a r h=>(OK) b.2.2.1 b.2.2.2.1.1 r h)) lP)))) Tryz.func177 Tryz.ntmps177 Tryz.results177,
   fun o0 o1 r h=>Qv (((BQ (lJ n) n).2 o0 o1).trans h) (gd kW kX (c:=(mW (yZ (fun b a r h=>(Q2) b.1.1 r h)) tA))) Tryz.func288 Tryz.ntmps288 Tryz.results288⟩
theorem Q3 (n:Nat): ∀ (o0:kN) (r:Ts),pW n o0=some r→SP Tryz.prog 281 (lT 0 kZ) rX ((o0,()),()) () true rZ (lM (nj kR.row) kZ) r9 sj r:=(xQ n).1
theorem O2 (n:Nat): ∀ (o0:kN) (o1:(List kR)) (r:Tz),lQ n o0 o1=some r→SP Tryz.prog 177 mE mF ((o0,()),(),(),o1,()) ((),()) true mG kZ mH mI r:=(xQ n).2.1
theorem parser_parser_atoms_1_ok (n:Nat): ∀ (o0:(List kR)) (o1:kN) (r:TB),pR n o0 o1=some r→SP Tryz.prog 288 (lT 0 (lT 1 kZ)) sQ ((),(),o0,(o1,()),()) () true sR kZ sS sU r:=(xQ n).2.2
end Go.Abs
namespace Go.Abs
open Go.Proofs
set_option maxRecDepth 100000
set_option maxHeartbeats 4000000
noncomputable def Vj:DO:=⟨[(15,3,true)],[],(zK::nr (zA::zA::zK::nr (zA::zA::zK::zK::DR (ow (ow (ow [])))))),[oK,oK,oK,oC [zK,zK,zK,zK,zK],oC [zK,zK,zK,zK],oA Token.row],none,none⟩
noncomputable def Vk:DO:=⟨[],[],(zK::nr (zA::zA::zK::ow (ow (zA::zA::zT (nj Zx)::zK::zK::zA::zA::zA::zT (nj nq)::zK::zK::DR (nr (nr (nr (zA::[])))))))),[oK,oK,oK,oC [zK,zK,zK,zK,zK]],none,none⟩
noncomputable def Vl:DO:=⟨[],[],(zK::nr (zA::zA::zK::ow (ow (zA::zA::zT (nj Zx)::zK::zK::DR (ow (zA::zA::zA::[])))))),[oK,oK,oK,oC [zK,zK,zK,zK,zK]],none,none⟩
noncomputable def Vm:DO:=⟨[],[],(zK::zT (nj nq)::nr (zA::zK::ow (zA::zT (nj nq)::zK::zK::DR (ow (ow (nr [])))))),[oK,oK,oK,oC [zK,zK,zK,zK,zK]],none,none⟩
@[reducible] noncomputable def vZ (n:Nat):lF TC:=qv Tryz.prog Tryz.f118 n (qT Tryz.prog [.tmp 4,.tmp 5,.tmp 6] (ty3 (nj Token.row) (mK .i64) (mK .i64))) (cl:=oS [(148,JS (MF n)),(149,qR nh pQ (QY n)),(150,ent0 (nj nq) (SF n)),(151,HO (Kp n)),(152,KJ (MG n)),(153,Io (KL n)),(154,Iu (KO n)),(155,KM (MO n)),(156,qR (mK .u8) (mK .i64) (GL n))]) (wU:=vR [([0,1,0,1,1,1,1,1,1,1],Vj),([0,1,1,0,0,1,1,0,0,1,0,1,1,1],Vk),([0,1,0,1,1,1],Vl),([0,1,0,1,1],Vm)]) (AZ:=mU []) (AY:=mU [])
theorem lexer_Scan_d (n:Nat):nP (vZ n) [0,1,1,0,0,1,0,0,1,0,1,1,1,1,1,1,1]=true:=by kernel_rfl
theorem lexer_Scan_o (n:Nat):lS (vZ n) [0,1,1,0,0,1,0,0,1,0,1,1,1,1,1,1,1] 6 15=true∧lS (vZ n) [0,1,1,0,0,1,0,0,1,0,1,1,1,1,1,1,1] 8 15=true∧lS (vZ n) [0,1,1,0,0,1,0,0,1,0,1,1,1,1,1,1,1] 12 15=true:=⟨by kernel_rfl,by kernel_rfl,by kernel_rfl⟩
attribute [go_sem] lexer_Scan_d lexer_Scan_o Vj Vk Vl Vm
noncomputable abbrev OM (v0:Str) (r0:List (Str×Bool)) (r1:List (Str×Bool)) (r2:List (Str×Bool)) (v4:Str) (v5:Int) (r5:List Token) (c5:Nat):AState:=⟨(.str (sb v0)::nQ (qA::qA:: .ptr 3 0::nQ (qA::qA:: .ptr 4 0:: .acc 5 c5::DQ (oJ (oJ (oJ [])))))),[.map (mp mcB r0),.map (mp mcB r1),.map (mp mcB r2),.cells [.str (sb v4),.int .i64 v5,.map 0,.map 1,.map 2],.cells [.func (.func 151) [.ptr 3 0] [],.func (.func 152) [.ptr 3 0] [],.func (.func 153) [.ptr 3 0] [],.func (.func 154) [.ptr 3 0] []],.acc true 3 (mp Token.cells r5)],0,[]⟩
abbrev FY:List Kt:=[.blk 6,.cut [1,1,1,1,1,1,1,1],.at [1,1,1,1,1,1,1,1]]
abbrev J1:=Str→T5→T5→T5→Str→Int→(List Token)→Option TC
abbrev ON (n:Nat) (K:List Kt) (Z:J1):Prop:= ∀ (v0:Str) (r0:List (Str×Bool)) (r1:List (Str×Bool)) (r2:List (Str×Bool)) (v4:Str) (v5:Int) (r5:List Token) (c5:Nat),c5=r5.length→run (vZ n) K (OM v0 r0 r1 r2 v4 v5 r5 c5)=Z v0 r0 r1 r2 v4 v5 r5
noncomputable abbrev Vn (v0:Str) (v1:List (List Str)) (v2:Int) (v3:Int) (v4:List Str) (v5:Int) (v6:Int) (r0:List (Str×Bool)) (r1:List (Str×Bool)) (r2:List (Str×Bool)) (v10:Str):AState:=⟨(.str (sb v0)::nQ (qA::qA:: .ptr 3 0::oJ (oJ (qA::qA:: .l5 false 1 (mp Mr v1):: .int .i64 v2:: .int .i64 v3::qA::qA::qA:: .l5 false 1 (mp mo v4):: .int .i64 v5:: .int .i64 v6::DQ (nQ (nQ (nQ (qA::[])))))))),[.map (mp mcB r0),.map (mp mcB r1),.map (mp mcB r2),.cells [.str (sb v10),.int .i64 0,.map 0,.map 1,.map 2]],0,[]⟩
abbrev FZ (m3:Nat):List Kt:=[.blk 4,.blk 3,.cut [1,1,1,0,0,1,0,1,1,1],.at [1,1,1,0,0,1,0,1,1,1],.lp m3 [0,1,0,1,1,1],.blk 2,.cut [1,1,1,1],.at [1,1,1,1]]
abbrev J2:=Str→(List (List Str))→Int→Int→(List Str)→Int→Int→T5→T5→T5→Str→Option TC
abbrev J3 (n:Nat) (K:List Kt) (Z:J2):Prop:= ∀ (v0:Str) (v1:List (List Str)) (v2:Int) (v3:Int) (v4:List Str) (v5:Int) (v6:Int) (r0:List (Str×Bool)) (r1:List (Str×Bool)) (r2:List (Str×Bool)) (v10:Str),run (vZ n) K (Vn v0 v1 v2 v3 v4 v5 v6 r0 r1 r2 v10)=Z v0 v1 v2 v3 v4 v5 v6 r0 r1 r2 v10
noncomputable abbrev Vo (v0:Str) (v1:List (List Str)) (v2:Int) (v3:Int) (r0:List (Str×Bool)) (r1:List (Str×Bool)) (r2:List (Str×Bool)) (v7:Str):AState:=⟨(.str (sb v0)::nQ (qA::qA:: .ptr 3 0::oJ (oJ (qA::qA:: .l5 false 1 (mp Mr v1):: .int .i64 v2:: .int .i64 v3::DQ (oJ (qA::qA::qA::[])))))),[.map (mp mcB r0),.map (mp mcB r1),.map (mp mcB r2),.cells [.str (sb v7),.int .i64 0,.map 0,.map 1,.map 2]],0,[]⟩
abbrev AO:=Str→(List (List Str))→Int→Int→T5→T5→T5→Str→Option TC
abbrev C4 (n:Nat) (K:List Kt) (Z:AO):Prop:= ∀ (v0:Str) (v1:List (List Str)) (v2:Int) (v3:Int) (r0:List (Str×Bool)) (r1:List (Str×Bool)) (r2:List (Str×Bool)) (v7:Str),run (vZ n) K (Vo v0 v1 v2 v3 r0 r1 r2 v7)=Z v0 v1 v2 v3 r0 r1 r2 v7
noncomputable abbrev Vp (v0:Str) (v1:List Str) (v2:List Str) (v3:Int) (v4:Int) (r0:List (Str×Bool)) (r1:List (Str×Bool)) (r2:List (Str×Bool)) (v8:Str):AState:=⟨(.str (sb v0):: .l5 false 1 (mp mo v1)::nQ (qA:: .ptr 3 0::oJ (qA:: .l5 false 1 (mp mo v2):: .int .i64 v3:: .int .i64 v4::DQ (oJ (oJ (nQ [])))))),[.map (mp mcB r0),.map (mp mcB r1),.map (mp mcB r2),.cells [.str (sb v8),.int .i64 0,.map 0,.map 1,.map 2]],0,[]⟩
abbrev J4:=Str→(List Str)→(List Str)→Int→Int→T5→T5→T5→Str→Option TC
abbrev J5 (n:Nat) (K:List Kt) (Z:J4):Prop:= ∀ (v0:Str) (v1:List Str) (v2:List Str) (v3:Int) (v4:Int) (r0:List (Str×Bool)) (r1:List (Str×Bool)) (r2:List (Str×Bool)) (v8:Str),run (vZ n) K (Vp v0 v1 v2 v3 v4 r0 r1 r2 v8)=Z v0 v1 v2 v3 v4 r0 r1 r2 v8
attribute [go_sem] OM FY Vn FZ Vo Vp
noncomputable def OO (n:Nat):{B:J1→J1 // ∀m X0,ON n (.lq m [0,1,0,1,1,1,1,1,1,1]::FY) X0→ ∀ (v0:Str) (r0:List (Str×Bool)) (r1:List (Str×Bool)) (r2:List (Str×Bool)) (v4:Str) (v5:Int) (r5:List Token),run (vZ n) (.at [0,0,1,0,1,1,1,1,1,1,1]:: .lp m [0,1,0,1,1,1,1,1,1,1]::FY) (OM v0 r0 r1 r2 v4 v5 r5 (r5.length))=B X0 v0 r0 r1 r2 v4 v5 r5}:=by
 apply jN
 intro m X0 ih v0 r0 r1 r2 v4 v5 r5
 simp (config:={maxSteps:=100000000}) only[go_sem,jE,jF,jA,jB,jG,jH,jJ,jK,jL,jD,jI,jM,Tryz.f118,jC,mixed,ih]
 exact rfl
noncomputable def OP (n:Nat):Nat→J1:=FH ((OO n).1)
theorem lexer_Scan_l1_s {n:Nat} {m:Nat}:OP n (m+1)=(OO n).1 (OP n m):=rfl
theorem EP (n:Nat) (m:Nat):ON n (.lq m [0,1,0,1,1,1,1,1,1,1]::FY) (OP n m):=
 mB (G:=fun m Z=>ON n (.lq m [0,1,0,1,1,1,1,1,1,1]::FY) Z) (fun _ _ _ _ _ _ _ _ _=>k7) (fun m _ ih=>by
  intro v0 r0 r1 r2 v4 v5 r5 c5 ec5
  subst ec5
  rw[k8]
  exact (OO n).2 _ _ ih v0 r0 r1 r2 v4 v5 r5) m
noncomputable def OQ (n:Nat):{B:AO→J2→J2 // ∀m3 X3 m X0,C4 n (.lq m3 [0,1,0,1,1,1]::[.blk 2,.cut [1,1,1,1],.at [1,1,1,1]]) X3→J3 n (.lq m [0,1,1,0,0,1,1,0,0,1,0,1,1,1]::FZ m3) X0→J3 n (.at [0,0,1,1,0,0,1,1,0,0,1,0,1,1,1]:: .lp m [0,1,1,0,0,1,1,0,0,1,0,1,1,1]::FZ m3) (B X3 X0)}:=by
 apply jN
 intro m3 X3 m X0 h3 ih v0 v1 v2 v3 v4 v5 v6 r0 r1 r2 v10
 simp (config:={maxSteps:=100000000}) only[go_sem,jE,jF,jA,jB,jG,jH,jJ,jK,jL,jD,jI,jM,Tryz.f118,jC,mixed,EP n,h3,ih]
 exact rfl
noncomputable def OR (n:Nat) (X3:AO):Nat→J2:=FH ((OQ n).1 X3)
theorem lexer_Scan_l2_s {n:Nat} (X3:AO) {m:Nat}:OR n X3 (m+1)=(OQ n).1 X3 (OR n X3 m):=rfl
theorem Xk (n:Nat) {m3:Nat} {X3} (h3:C4 n (.lq m3 [0,1,0,1,1,1]::[.blk 2,.cut [1,1,1,1],.at [1,1,1,1]]) X3) (m:Nat):J3 n (.lq m [0,1,1,0,0,1,1,0,0,1,0,1,1,1]::FZ m3) (OR n X3 m):=
 mB (G:=fun m Z=>J3 n (.lq m [0,1,1,0,0,1,1,0,0,1,0,1,1,1]::FZ m3) Z) (fun _ _ _ _ _ _ _ _ _ _ _=>k7) (fun m _ ih v0 v1 v2 v3 v4 v5 v6 r0 r1 r2 v10=>k8.trans ((OQ n).2 _ _ _ _ h3 ih v0 v1 v2 v3 v4 v5 v6 r0 r1 r2 v10)) m
noncomputable def OS (n:Nat):{B:AO→AO // ∀m X0,C4 n (.lq m [0,1,0,1,1,1]::[.blk 2,.cut [1,1,1,1],.at [1,1,1,1]]) X0→C4 n (.at [0,0,1,0,1,1,1]:: .lp m [0,1,0,1,1,1]::[.blk 2,.cut [1,1,1,1],.at [1,1,1,1]]) (B X0)}:=by
 apply jN
 intro m X0 ih v0 v1 v2 v3 r0 r1 r2 v7
 simp (config:={maxSteps:=100000000}) only[go_sem,jE,jF,jA,jB,jG,jH,jJ,jK,jL,jD,jI,jM,Tryz.f118,jC,mixed,EP n,Xk n ih,ih]
 exact rfl
noncomputable def OT (n:Nat):Nat→AO:=FH ((OS n).1)
theorem lexer_Scan_l3_s {n:Nat} {m:Nat}:OT n (m+1)=(OS n).1 (OT n m):=rfl
theorem PU (n:Nat) (m:Nat):C4 n (.lq m [0,1,0,1,1,1]::[.blk 2,.cut [1,1,1,1],.at [1,1,1,1]]) (OT n m):=
 mB (G:=fun m Z=>C4 n (.lq m [0,1,0,1,1,1]::[.blk 2,.cut [1,1,1,1],.at [1,1,1,1]]) Z) (fun _ _ _ _ _ _ _ _=>k7) (fun m _ ih v0 v1 v2 v3 r0 r1 r2 v7=>k8.trans ((OS n).2 _ _ ih v0 v1 v2 v3 r0 r1 r2 v7)) m
noncomputable def OU (n:Nat):{B:J4→J4 // ∀m X0,J5 n (.lq m [0,1,0,1,1]::[.blk 0,.cut [1,1,1],.at [1,1,1]]) X0→J5 n (.at [0,0,1,0,1,1]:: .lp m [0,1,0,1,1]::[.blk 0,.cut [1,1,1],.at [1,1,1]]) (B X0)}:=by
 apply jN
 intro m X0 ih v0 v1 v2 v3 v4 r0 r1 r2 v8
 simp (config:={maxSteps:=100000000}) only[go_sem,jE,jF,jA,jB,jG,jH,jJ,jK,jL,jD,jI,jM,Tryz.f118,jC,mixed,EP n,PU n,ih]
 exact rfl
noncomputable def OV (n:Nat):Nat→J4:=FH ((OU n).1)
theorem lexer_Scan_l4_s {n:Nat} {m:Nat}:OV n (m+1)=(OU n).1 (OV n m):=rfl
theorem Xl (n:Nat) (m:Nat):J5 n (.lq m [0,1,0,1,1]::[.blk 0,.cut [1,1,1],.at [1,1,1]]) (OV n m):=
 mB (G:=fun m Z=>J5 n (.lq m [0,1,0,1,1]::[.blk 0,.cut [1,1,1],.at [1,1,1]]) Z) (fun _ _ _ _ _ _ _ _ _=>k7) (fun m _ ih v0 v1 v2 v3 v4 r0 r1 r2 v8=>k8.trans ((OU n).2 _ _ ih v0 v1 v2 v3 v4 r0 r1 r2 v8)) m
noncomputable def WD (n:Nat):{B:Str→(List Str)→Option TC // ∀ (a0:Str) (a1:(List Str)),run (vZ n) [.at []] (ini [nh.enc a0,(nj nq).enc a1] 128)=B a0 a1}:=by
 apply jN
 intro a0 a1
 simp (config:={maxSteps:=100000000}) only[go_sem,jE,jF,jA,jB,jG,jH,jJ,jK,jL,jD,jI,jM,Tryz.f118,jC,mixed,EP n,PU n,Xl n]
 exact rfl
noncomputable def ZL:=fu fun n=>(WD n).1
theorem lexer_Scan_ok: ∀ (n:Nat) (a0:Str) (a1:(List Str)) (r:TC),ZL n a0 a1=some r→yP Tryz.prog 118 [nh.enc a0,(nj nq).enc a1] (fun v=>v=(ty3 (nj Token.row) (mK .i64) (mK .i64)).enc r)
 |0,_,_,_,h=>by cases h
 |n+1,a0,a1,r,h=>by
  exact Lc (((WD n).2 a0 a1).trans h) (gd (kV (Dy (fun b a r h=>(NU n) r h)) (kV (pH (RA n)) (kV (ent0_ok (SH n)) (kV (Dy (fun b a r h=>(Pn n) b.1.1 b.1.2.1 b.2.1 b.2.2.1 b.2.2.2.1 r h)) (kV (Dy (fun b a r h=>(RI n) b.1.1 b.1.2.1 b.2.1 b.2.2.1 b.2.2.2.1 r h)) (kV (Dy (fun b a r h=>(PI n) b.1.1 b.1.2.1 b.2.1 b.2.2.1 b.2.2.2.1 r h)) (kV (Dy (fun b a r h=>(PL n) b.1.1 b.1.2.1 b.2.1 b.2.2.1 b.2.2.2.1 r h)) (kV (Dy (fun b a r h=>(RJ n) b.1.1 b.1.2.1 b.2.1 b.2.2.1 b.2.2.2.1 r h)) (kV (pH (D2 n)) kW))))))))) kX) Tryz.func118 ⟨nh.nb 0 _,(nj nq).nb 0 _,trivial⟩ Tryz.ntmps118 Tryz.results118
noncomputable def Eo:DO:=⟨[],[],(zK::zA::zA::zK::nr (nr (nr (zA::zA::zA::[])))),[oT kN.cel,oA nq],none,none⟩
noncomputable def DI:DO:=⟨[],[],(zK::zA::zA::zL nq::nr (nr (nr (zA::zA::zA::[])))),[oT kN.cel],(some 3),none⟩
noncomputable def uB:OL T0:=(lG (mT (ql kN.cel 6 kZ)) nM)
noncomputable def uC:OL T0:=(lG (mT (ql kN.cel 6 kZ)) nM)
noncomputable def uD:OL T0:=(lG (mT (ql kN.cel 6 kZ)) nM)
noncomputable def uE:AL T4:=(lM (ue 66 (lK kP.cel)) kZ)
attribute [go_sem] uB uC uD uE
noncomputable def E9 (F:kN→Option TE):=entXP true [.arg 0 []] uB (lT 0 kZ) uC (lM (nj nq) kZ) uD uE (fun (b:T0) (a:Unit)=>F b.1.1)
attribute [go_sem] E9
@[reducible] noncomputable def sv (n:Nat):lF TE:=qv Tryz.prog Tryz.f294 n (p9 Tryz.prog [.tmp 2] [] [0] 1 uC (lM (nj nq) kZ)) (cl:=oS [(59,entG [0] (wP (Ay kN.cel) vc) (Od 0 L3) (wP (Ay kN.cel) vc) (NI nh Ke) (fun (b:Tb) a=>(l8 n) b.1)),(123,entV (rS (qR (zZ kN.cel) pQ (vY n))))]) (wU:=vR [([0,0,1,1],DI),([0,0,1,1],Eo)]) (pJ:=qa [] [0] 1 uD uE) (cp:=z6 [(72,ng (mJ n)),(119,qy (rW n))]) (Ab:=mU [72,119])
attribute [go_sem] Eo DI
noncomputable abbrev zg (o0:kN) (r1:List Str) (c1:Nat):AState:=⟨(.ptr 0 0::qA::qA:: .acc 1 c1::nQ (nQ (nQ (qA::qA::qA::[])))),[.cells (kN.cells o0),.acc true 1 (mp mo r1)],1,[]⟩
abbrev uF:=kN→(List Str)→Option TE
abbrev zh (n:Nat) (K:List Kt) (Z:uF):Prop:= ∀ (o0:kN) (r1:List Str) (c1:Nat),c1=r1.length→run (sv n) K (zg o0 r1 c1)=Z o0 r1
attribute [go_sem] zg
noncomputable def zi (n:Nat):{B:uF→uF // ∀m X0,zh n (.lq m [0,0,1,1]::[.blk 0,.cut [1,1,1],.at [1,1,1]]) X0→ ∀ (o0:kN) (r1:List Str),run (sv n) (.at [0,0,0,1,1]:: .lp m [0,0,1,1]::[.blk 0,.cut [1,1,1],.at [1,1,1]]) (zg o0 r1 (r1.length))=B X0 o0 r1}:=by
 apply jN
 intro m X0 ih o0 r1
 simp (config:={maxSteps:=100000000,implicitDefEqProofs:=false}) only[go_sem,jE,jF,jA,jB,jG,jH,jJ,jK,jL,jD,jI,jM,Tryz.f294,jC,mixed,ih]
 exact rfl
noncomputable def zj (n:Nat):Nat→uF:=FH ((zi n).1)
theorem Yg {n:Nat} {m:Nat}:zj n (m+1)=(zi n).1 (zj n m):=rfl
theorem Ce (n:Nat) (m:Nat):zh n (.lq m [0,0,1,1]::[.blk 0,.cut [1,1,1],.at [1,1,1]]) (zj n m):=
 mB (G:=fun m Z=>zh n (.lq m [0,0,1,1]::[.blk 0,.cut [1,1,1],.at [1,1,1]]) Z) (fun _ _ _ _=>k7) (fun m _ ih=>by
  intro o0 r1 c1 ec1
  subst ec1
  rw[k8]
  exact (zi n).2 _ _ ih o0 r1) m
noncomputable def DJ (n:Nat):{B:Nat→(List Str)→kN→Option TE // ∀ (m:Nat) (v0:List Str) (o0:kN),run (sv n) [.at [0,0,0,1,1],.lp m [0,0,1,1],.blk 0,.cut [1,1,1],.at [1,1,1]] ⟨[.ptr 0 0,qA,qA,.l5 true 1 (mp mo v0),qA,qA,qA,qA,qA,qA,qA,qA,qA,qA,qA,qA,qA,qA,qA],[.cells (kN.cells o0)],1,[]⟩=B m v0 o0}:=by
 apply jN
 intro m v0 o0
 simp (config:={maxSteps:=100000000,implicitDefEqProofs:=false}) only[go_sem,jE,jF,jA,jB,jG,jH,jJ,jK,jL,jD,jI,jM,Tryz.f294,jC,mixed,Ce n]
 exact rfl
noncomputable def MS (n:Nat):Nat→(List Str)→kN→Option TE
 |0,_,_=>none
 |m+1,v0,o0=>(DJ n).1 m v0 o0
theorem KT (n:Nat): ∀ (m:Nat),(∀ (v0:List Str) (o0:kN),run (sv n) [.lq m [0,0,1,1],.blk 0,.cut [1,1,1],.at [1,1,1]] ⟨[.ptr 0 0,qA,qA,.l5 true 1 (mp mo v0),qA,qA,qA,qA,qA,qA,qA,qA,qA,qA,qA,qA,qA,qA,qA],[.cells (kN.cells o0)],1,[]⟩=MS n m v0 o0)
 |0=>by intros;exact k7
 |m+1=>by
  intro v0 o0
  rw[k8]
  exact (DJ n).2 m v0 o0
noncomputable def Fa (n:Nat):{B:kN→Option TE // ∀ (o0:kN),run (sv n) [.at []] (s8 (lT 0 kZ) uB ((o0,()),()) () 19)=B o0}:=by
 apply jN
 intro o0
 simp (config:={maxSteps:=100000000,implicitDefEqProofs:=false}) only[go_sem,jE,jF,jA,jB,jG,jH,jJ,jK,jL,jD,jI,jM,Tryz.f294,jC,mixed,Ce n,KT n]
 exact rfl
noncomputable def G9:=fu fun n=>(Fa n).1
theorem MT: ∀ (n:Nat) (o0:kN) (r:TE),G9 n o0=some r→SP Tryz.prog 294 (lT 0 kZ) uB ((o0,()),()) () true uC (lM (nj nq) kZ) uD uE r
 |0,_,_,h=>by cases h
 |n+1,o0,r,h=>by
  exact Qv (((Fa n).2 o0).trans h) (gd (kV (oI (fun b a r h=>(lU n) b.1 r h)) (kV (oa (nG (yK n))) kW)) kX (p:=(kY (ld (fun b a r h=>(mm n) a.1 b.1.1 r h)) (kY (ld (fun b a r h=>(su n) b.1.1 r h)) lP)))) Tryz.func294 Tryz.ntmps294 Tryz.results294
noncomputable def NX:DO:=⟨[],[],(zA::zK::ow (ow (nr (nr (zA::zA::zA::zT (nj nq)::zK::zK::ow (ow (nr (nr (zA::zA::[]))))))))),[oT Notation.cel],none,none⟩
noncomputable def NY:DO:=⟨[],[],(zA::zK::zA::zK::nr (nr (nr (zA::zA::zA::zT (nj nq)::zK::zK::DR (nr []))))),[oT Notation.cel],none,none⟩
@[reducible] noncomputable def JT (n:Nat):lF Int:=qv Tryz.prog Tryz.f242 n (qT Tryz.prog [.tmp 2] (mK .i64)) (cl:=oS [(149,qR nh pQ (QY n)),(244,qR (lK Notation.cel) pQ (FP n)),(245,qR (lK Notation.cel) pQ (HV n)),(260,qR nh pQ (term_Name n))]) (wU:=vR [([0,1,0,1,1,1,1,1],NX),([0,1,0,1,1,1],NY)])
attribute [go_sem] NX NY
noncomputable abbrev N1 (v0:List Str) (v1:Int) (v2:Int) (o0:Notation):AState:=⟨(qA:: .ptr 0 0::oJ (oJ (nQ (nQ (qA::qA::qA:: .l5 false 1 (mp mo v0):: .int .i64 v1:: .int .i64 v2::oJ (oJ (nQ (nQ (qA::qA::[]))))))))),[.cells (Notation.cells o0)],0,[]⟩
abbrev DK:=(List Str)→Int→Int→Notation→Option Int
abbrev DL (n:Nat) (K:List Kt) (Z:DK):Prop:= ∀ (v0:List Str) (v1:Int) (v2:Int) (o0:Notation),run (JT n) K (N1 v0 v1 v2 o0)=Z v0 v1 v2 o0
noncomputable abbrev N2 (v0:Int) (v1:List Str) (v2:Int) (v3:Int) (o0:Notation):AState:=⟨(qA:: .ptr 0 0::qA:: .int .i64 v0::nQ (nQ (nQ (qA::qA::qA:: .l5 false 1 (mp mo v1):: .int .i64 v2:: .int .i64 v3::DQ (nQ []))))),[.cells (Notation.cells o0)],0,[]⟩
abbrev DM:=Int→(List Str)→Int→Int→Notation→Option Int
abbrev DN (n:Nat) (K:List Kt) (Z:DM):Prop:= ∀ (v0:Int) (v1:List Str) (v2:Int) (v3:Int) (o0:Notation),run (JT n) K (N2 v0 v1 v2 v3 o0)=Z v0 v1 v2 v3 o0
attribute [go_sem] N1 N2
noncomputable def IF (n:Nat):{B:DK→DK // ∀m X0,DL n (.lq m [0,1,0,1,1,1,1,1]::[.blk 2,.cut [1,1,1,1,1,1],.at [1,1,1,1,1,1]]) X0→DL n (.at [0,0,1,0,1,1,1,1,1]:: .lp m [0,1,0,1,1,1,1,1]::[.blk 2,.cut [1,1,1,1,1,1],.at [1,1,1,1,1,1]]) (B X0)}:=by
 apply jN
 intro m X0 ih v0 v1 v2 o0
 simp (config:={maxSteps:=100000000}) only[go_sem,jE,jF,jA,jB,jG,jH,jJ,jK,jL,jD,jI,jM,Tryz.f242,jC,mixed,ih]
 exact rfl
noncomputable def IG (n:Nat):Nat→DK:=FH ((IF n).1)
theorem notation_Check_l1_s {n:Nat} {m:Nat}:IG n (m+1)=(IF n).1 (IG n m):=rfl
theorem KU (n:Nat) (m:Nat):DL n (.lq m [0,1,0,1,1,1,1,1]::[.blk 2,.cut [1,1,1,1,1,1],.at [1,1,1,1,1,1]]) (IG n m):=
 mB (G:=fun m Z=>DL n (.lq m [0,1,0,1,1,1,1,1]::[.blk 2,.cut [1,1,1,1,1,1],.at [1,1,1,1,1,1]]) Z) (fun _ _ _ _=>k7) (fun m _ ih v0 v1 v2 o0=>k8.trans ((IF n).2 _ _ ih v0 v1 v2 o0)) m
noncomputable def II (n:Nat):{B:DM→DM // ∀m X0,DN n (.lq m [0,1,0,1,1,1]::[.blk 0,.cut [1,1,1,1],.at [1,1,1,1]]) X0→DN n (.at [0,0,1,0,1,1,1]:: .lp m [0,1,0,1,1,1]::[.blk 0,.cut [1,1,1,1],.at [1,1,1,1]]) (B X0)}:=by
 apply jN
 intro m X0 ih v0 v1 v2 v3 o0
 simp (config:={maxSteps:=100000000}) only[go_sem,jE,jF,jA,jB,jG,jH,jJ,jK,jL,jD,jI,jM,Tryz.f242,jC,mixed,KU n,ih]
 exact rfl
noncomputable def IJ (n:Nat):Nat→DM:=FH ((II n).1)
theorem notation_Check_l2_s {n:Nat} {m:Nat}:IJ n (m+1)=(II n).1 (IJ n m):=rfl
theorem TZ (n:Nat) (m:Nat):DN n (.lq m [0,1,0,1,1,1]::[.blk 0,.cut [1,1,1,1],.at [1,1,1,1]]) (IJ n m):=
 mB (G:=fun m Z=>DN n (.lq m [0,1,0,1,1,1]::[.blk 0,.cut [1,1,1,1],.at [1,1,1,1]]) Z) (fun _ _ _ _ _=>k7) (fun m _ ih v0 v1 v2 v3 o0=>k8.trans ((II n).2 _ _ ih v0 v1 v2 v3 o0)) m
noncomputable def PV (n:Nat):{B:Notation→Option Int // ∀ (a0:Notation),run (JT n) [.at []] (ini [(lK Notation.cel).enc a0] 90)=B a0}:=by
 apply jN
 intro a0
 simp (config:={maxSteps:=100000000}) only[go_sem,jE,jF,jA,jB,jG,jH,jJ,jK,jL,jD,jI,jM,Tryz.f242,jC,mixed,KU n,TZ n]
 exact rfl
noncomputable def Ua:=fu fun n=>(PV n).1
theorem WE: ∀ (n:Nat) (a0:Notation) (r:Int),Ua n a0=some r→yP Tryz.prog 242 [(lK Notation.cel).enc a0] (fun v=>v=(mK .i64).enc r)
 |0,_,_,h=>by cases h
 |n+1,a0,r,h=>by
  exact Lc (((PV n).2 a0).trans h) (gd (kV (pH (RA n)) (kV (pH (EK n)) (kV (pH (HW n)) (kV (pH (term_Name_ok n)) kW)))) kX) Tryz.func242 ⟨(lK Notation.cel).nb 0 _,trivial⟩ Tryz.ntmps242 Tryz.results242
end Go.Abs
namespace Go.Abs
open Go.Proofs
set_option maxRecDepth 100000
set_option maxHeartbeats 4000000
noncomputable def A8:AL (Str×(Int×(Int×To))):=(lM nh (lM (mK .i64) (lM (mK .i64) (lM (nj nq) kZ))))
noncomputable def A9:AL T4:=(lM (ue 66 (lK kP.cel)) kZ)
attribute [go_sem] A8 A9
noncomputable def MU (F:Str→Int→Int→(List Str)→Option TD):=entXP true [] nM A8 nM (lM (lK kU.cel) kZ) nM A9 (fun (b:Unit) (a:(Str×(Int×(Int×To))))=>F a.1 a.2.1 a.2.2.1 a.2.2.2.1)
attribute [go_sem] MU
@[reducible] noncomputable def VS (n:Nat):lF TD:=qv Tryz.prog Tryz.f71 n (p9 Tryz.prog [.cell 8 100] [] [] 0 nM (lM (lK kU.cel) kZ)) (cl:=oS [(118,yR nh (nj nq) (ty3 (nj Token.row) (mK .i64) (mK .i64)) (ZL n))]) (pJ:=qa [] [] 0 nM A9)
noncomputable def MV (n:Nat):{B:Str→Int→Int→(List Str)→Option TD // ∀ (a0:Str) (a1:Int) (a2:Int) (a3:(List Str)),run (VS n) [.at []] (s8 A8 nM () (a0,a1,a2,a3,()) 33)=B a0 a1 a2 a3}:=by
 apply jN
 intro a0 a1 a2 a3
 simp (config:={maxSteps:=100000000,implicitDefEqProofs:=false}) only[go_sem,jE,jF,jA,jB,jG,jH,jJ,jK,jL,jD,jI,jM,Tryz.f71,jC,mixed]
 exact rfl
noncomputable def PW:=fu fun n=>(MV n).1
theorem UT: ∀ (n:Nat) (a0:Str) (a1:Int) (a2:Int) (a3:(List Str)) (r:TD),PW n a0 a1 a2 a3=some r→SP Tryz.prog 71 A8 nM () (a0,a1,a2,a3,()) true nM (lM (lK kU.cel) kZ) nM A9 r
 |0,_,_,_,_,_,h=>by cases h
 |n+1,a0,a1,a2,a3,r,h=>by
  exact Qv (((MV n).2 a0 a1 a2 a3).trans h) (gd (kV (qS (lexer_Scan_ok n)) kW) kX) Tryz.func71 Tryz.ntmps71 Tryz.results71
noncomputable def uG:OL T0:=(lG (mT (ql kN.cel 6 kZ)) nM)
noncomputable def uH:OL T0:=(lG (mT (ql kN.cel 6 kZ)) nM)
noncomputable def uI:OL T0:=(lG (mT (ql kN.cel 6 kZ)) nM)
noncomputable def uJ:AL T4:=(lM (ue 66 (lK kP.cel)) kZ)
attribute [go_sem] uG uH uI uJ
noncomputable def Jl (F:kN→Option Tv):=entXP true [.arg 0 []] uG (lT 0 kZ) uH (lM (lK kO.cel) kZ) uI uJ (fun (b:T0) (a:Unit)=>F b.1.1)
attribute [go_sem] Jl
@[reducible] noncomputable def RN (n:Nat):lF Tv:=qv Tryz.prog Tryz.f274 n (p9 Tryz.prog [.cell 2 80] [] [0] 1 uH (lM (lK kO.cel) kZ)) (cl:=oS [(122,entG [0] (wP (Ay kN.cel) vc) (Od 0 (XB nh L3)) (wP (Ay kN.cel) vc) (NI pQ Ke) (fun (b:Tb) a=>(mz n) b.1 a.1))]) (pJ:=qa [] [0] 1 uI uJ) (cp:=z6 [(281,Jk (pW n))]) (Ab:=mU [281])
noncomputable def Jm (n:Nat):{B:kN→Option Tv // ∀ (o0:kN),run (RN n) [.at []] (s8 (lT 0 kZ) uG ((o0,()),()) () 11)=B o0}:=by
 apply jN
 intro o0
 simp (config:={maxSteps:=100000000,implicitDefEqProofs:=false}) only[go_sem,jE,jF,jA,jB,jG,jH,jJ,jK,jL,jD,jI,jM,Tryz.f274,jC,mixed]
 exact rfl
noncomputable def Ft:=fu fun n=>(Jm n).1
theorem IK: ∀ (n:Nat) (o0:kN) (r:Tv),Ft n o0=some r→SP Tryz.prog 274 (lT 0 kZ) uG ((o0,()),()) () true uH (lM (lK kO.cel) kZ) uI uJ r
 |0,_,_,h=>by cases h
 |n+1,o0,r,h=>by
  exact Qv (((Jm n).2 o0).trans h) (gd (kV (oI (fun b a r h=>(me n) b.1 a.1 r h)) kW) kX (p:=(kY (ld (fun b a r h=>(Q3 n) b.1.1 r h)) lP))) Tryz.func274 Tryz.ntmps274 Tryz.results274
noncomputable def Jn:DO:=⟨[],[],(zK::DR (nr (nr (nr (zA::zA::zA::zT (nj nq)::zK::zK::ow (zA::zA::[])))))),[oC [zK,zK,zK,zK],oM (lK Notation.cel),oM (lK Notation.cel),oK],none,none⟩
noncomputable def Jo:DO:=⟨[],[],(zK::zA::zA::zK::zA::zA::zK::zK::zT (nj nq)::ow (ow (nr (nr (nr (zA::zA::zA::zT (nj nq)::zK::zK::ow (ow (nr (nr (zA::zA::[])))))))))),[oC [zK,zK,zK,zK],oM (lK Notation.cel),oM (lK Notation.cel),oK,oT Notation.cel],none,(some (6,2))⟩
noncomputable def Jp:DO:=⟨[],[],(zK::zA::zA::zK::zA::zA::zK::zK::zT (nj nq)::ow (ow (nr (nr (nr (zA::zA::zA::zT (nj nq)::zK::zK::ow (ow (nr (nr (zA::zA::[])))))))))),[oC [zK,zK,zK,zK],oM (lK Notation.cel),oM (lK Notation.cel),oK,oT Notation.cel],none,(some (6,1))⟩
noncomputable def zN:OL T3:=(lG (mT (u9 1 (u9 2 (u9 3 (lM (mK .i64) kZ))))) (lG (yS (lK Notation.cel)) (lG (yS (lK Notation.cel)) (lG Gr nM))))
noncomputable def zO:OL T3:=(lG (mT (u9 1 (u9 2 (u9 3 (lM (mK .i64) kZ))))) (lG (yS (lK Notation.cel)) (lG (yS (lK Notation.cel)) (lG Gr nM))))
attribute [go_sem] zN zO
noncomputable def KV (F:Notation→Int→T9→T9→T5→Option TJ):=entX [.arg 0 [],.obj 0 0 [],.obj 0 1 [],.obj 0 2 []] zN (lT 0 (lM (lK Notation.cel) kZ)) zO (lM (mK .i64) kZ) (fun (b:T3) (a:(Notation×Unit))=>F a.1 b.1.1 b.2.1 b.2.2.1 b.2.2.2.1)
attribute [go_sem] KV
@[reducible] noncomputable def Aq (n:Nat):lF TJ:=qv Tryz.prog Tryz.f219 n (EH Tryz.prog [.tmp 4] [] [0,1,2,3] 4 zO (lM (mK .i64) kZ)) (cl:=oS [(195,yR (nj nq) nh pQ (Cz n)),(242,qR (lK Notation.cel) (mK .i64) (Ua n)),(244,qR (lK Notation.cel) pQ (FP n))]) (wU:=vR [([0,1,0,1,1,1,1,1,1,1,1],Jn),([0,1,0,1,1,1,1,1,1],Jo),([0,1,0,1,1,1,1,1,1],Jp)]) (cp:=z6 [(243,Ic (KH n))]) (Ab:=mU [243])
attribute [go_sem] Jn Jo Jp
noncomputable abbrev Jq (v0:List Str) (v1:Int) (v2:Int) (v3:Int) (r1:List (Str×Notation)) (r2:List (Str×Notation)) (r3:List (Str×Bool)):AState:=⟨(.ptr 0 0::DQ (nQ (nQ (nQ (qA::qA::qA:: .l5 false 1 (mp mo v0):: .int .i64 v1:: .int .i64 v2::oJ (qA::qA::[])))))),[.cells [.map 1,.map 2,.map 3,.int .i64 v3],.map (mp (mcT (lK Notation.cel)) r1),.map (mp (mcT (lK Notation.cel)) r2),.map (mp mcB r3)],4,[]⟩
abbrev vB:List Kt:=[.blk 2,.cut [1,1,1,1,1,1,1,1,1],.at [1,1,1,1,1,1,1,1,1]]
abbrev zP:=(List Str)→Int→Int→Int→T9→T9→T5→Option TJ
abbrev zQ (n:Nat) (K:List Kt) (Z:zP):Prop:= ∀ (v0:List Str) (v1:Int) (v2:Int) (v3:Int) (r1:List (Str×Notation)) (r2:List (Str×Notation)) (r3:List (Str×Bool)),run (Aq n) K (Jq v0 v1 v2 v3 r1 r2 r3)=Z v0 v1 v2 v3 r1 r2 r3
noncomputable abbrev Jr (v0:Str) (v1:List Str) (v2:List Str) (v3:Int) (v4:Int) (v5:Int) (r1:List (Str×Notation)) (r2:List (Str×Notation)) (r3:List (Str×Bool)) (o4:Notation):AState:=⟨(.ptr 0 0::qA::qA:: .ptr 4 0::qA::qA:: .map 2:: .str (sb v0):: .l5 false 1 (mp mo v1)::oJ (oJ (nQ (nQ (nQ (qA::qA::qA:: .l5 false 1 (mp mo v2):: .int .i64 v3:: .int .i64 v4::oJ (oJ (nQ (nQ (qA::qA::[])))))))))),[.cells [.map 1,.map 2,.map 3,.int .i64 v5],.map (mp (mcT (lK Notation.cel)) r1),.map (mp (mcT (lK Notation.cel)) r2),.map (mp mcB r3),.cells (Notation.cells o4)],4,[]⟩
abbrev vC:List Kt:=[.blk 0,.cut [1,1,1,1,1,1,1],.at [1,1,1,1,1,1,1]]
abbrev zR:=Str→(List Str)→(List Str)→Int→Int→Int→T9→T9→T5→Notation→Option TJ
abbrev zS (n:Nat) (K:List Kt) (Z:zR):Prop:= ∀ (v0:Str) (v1:List Str) (v2:List Str) (v3:Int) (v4:Int) (v5:Int) (r1:List (Str×Notation)) (r2:List (Str×Notation)) (r3:List (Str×Bool)) (o4:Notation),run (Aq n) K (Jr v0 v1 v2 v3 v4 v5 r1 r2 r3 o4)=Z v0 v1 v2 v3 v4 v5 r1 r2 r3 o4
noncomputable abbrev Js (v0:Str) (v1:List Str) (v2:List Str) (v3:Int) (v4:Int) (v5:Int) (r1:List (Str×Notation)) (r2:List (Str×Notation)) (r3:List (Str×Bool)) (o4:Notation):AState:=⟨(.ptr 0 0::qA::qA:: .ptr 4 0::qA::qA:: .map 1:: .str (sb v0):: .l5 false 1 (mp mo v1)::oJ (oJ (nQ (nQ (nQ (qA::qA::qA:: .l5 false 1 (mp mo v2):: .int .i64 v3:: .int .i64 v4::oJ (oJ (nQ (nQ (qA::qA::[])))))))))),[.cells [.map 1,.map 2,.map 3,.int .i64 v5],.map (mp (mcT (lK Notation.cel)) r1),.map (mp (mcT (lK Notation.cel)) r2),.map (mp mcB r3),.cells (Notation.cells o4)],4,[]⟩
abbrev vD:List Kt:=[.blk 0,.cut [1,1,1,1,1,1,1],.at [1,1,1,1,1,1,1]]
abbrev zU:=Str→(List Str)→(List Str)→Int→Int→Int→T9→T9→T5→Notation→Option TJ
abbrev zV (n:Nat) (K:List Kt) (Z:zU):Prop:= ∀ (v0:Str) (v1:List Str) (v2:List Str) (v3:Int) (v4:Int) (v5:Int) (r1:List (Str×Notation)) (r2:List (Str×Notation)) (r3:List (Str×Bool)) (o4:Notation),run (Aq n) K (Js v0 v1 v2 v3 v4 v5 r1 r2 r3 o4)=Z v0 v1 v2 v3 v4 v5 r1 r2 r3 o4
attribute [go_sem] Jq vB Jr vC Js vD
noncomputable def Dh (n:Nat):{B:zP→zP // ∀m X0,zQ n (.lq m [0,1,0,1,1,1,1,1,1,1,1]::vB) X0→zQ n (.at [0,0,1,0,1,1,1,1,1,1,1,1]:: .lp m [0,1,0,1,1,1,1,1,1,1,1]::vB) (B X0)}:=by
 apply jN
 intro m X0 ih v0 v1 v2 v3 r1 r2 r3
 simp (config:={maxSteps:=100000000,implicitDefEqProofs:=false}) only[go_sem,jE,jF,jA,jB,jG,jH,jJ,jK,jL,jD,jI,jM,Tryz.f219,jC,mixed,ih]
 exact rfl
noncomputable def Di (n:Nat):Nat→zP:=FH ((Dh n).1)
theorem notation_index_add_l1_s {n:Nat} {m:Nat}:Di n (m+1)=(Dh n).1 (Di n m):=rfl
theorem AP (n:Nat) (m:Nat):zQ n (.lq m [0,1,0,1,1,1,1,1,1,1,1]::vB) (Di n m):=
 mB (G:=fun m Z=>zQ n (.lq m [0,1,0,1,1,1,1,1,1,1,1]::vB) Z) (fun _ _ _ _ _ _ _=>k7) (fun m _ ih v0 v1 v2 v3 r1 r2 r3=>k8.trans ((Dh n).2 _ _ ih v0 v1 v2 v3 r1 r2 r3)) m
noncomputable def Dj (n:Nat):{B:zR→zR // ∀m X0,zS n (.lq m [0,1,0,1,1,1,1,1,1]::vC) X0→zS n (.at [0,0,1,0,1,1,1,1,1,1]:: .lp m [0,1,0,1,1,1,1,1,1]::vC) (B X0)}:=by
 apply jN
 intro m X0 ih v0 v1 v2 v3 v4 v5 r1 r2 r3 o4
 simp (config:={maxSteps:=100000000,implicitDefEqProofs:=false}) only[go_sem,jE,jF,jA,jB,jG,jH,jJ,jK,jL,jD,jI,jM,Tryz.f219,jC,mixed,AP n,ih]
 exact rfl
noncomputable def Dk (n:Nat):Nat→zR:=FH ((Dj n).1)
theorem notation_index_add_l2_s {n:Nat} {m:Nat}:Dk n (m+1)=(Dj n).1 (Dk n m):=rfl
theorem F0 (n:Nat) (m:Nat):zS n (.lq m [0,1,0,1,1,1,1,1,1]::vC) (Dk n m):=
 mB (G:=fun m Z=>zS n (.lq m [0,1,0,1,1,1,1,1,1]::vC) Z) (fun _ _ _ _ _ _ _ _ _ _=>k7) (fun m _ ih v0 v1 v2 v3 v4 v5 r1 r2 r3 o4=>k8.trans ((Dj n).2 _ _ ih v0 v1 v2 v3 v4 v5 r1 r2 r3 o4)) m
noncomputable def Dl (n:Nat):{B:zU→zU // ∀m X0,zV n (.lq m [0,1,0,1,1,1,1,1,1]::vD) X0→zV n (.at [0,0,1,0,1,1,1,1,1,1]:: .lp m [0,1,0,1,1,1,1,1,1]::vD) (B X0)}:=by
 apply jN
 intro m X0 ih v0 v1 v2 v3 v4 v5 r1 r2 r3 o4
 simp (config:={maxSteps:=100000000,implicitDefEqProofs:=false}) only[go_sem,jE,jF,jA,jB,jG,jH,jJ,jK,jL,jD,jI,jM,Tryz.f219,jC,mixed,AP n,F0 n,ih]
 exact rfl
noncomputable def Dm (n:Nat):Nat→zU:=FH ((Dl n).1)
theorem notation_index_add_l3_s {n:Nat} {m:Nat}:Dm n (m+1)=(Dl n).1 (Dm n m):=rfl
theorem OW (n:Nat) (m:Nat):zV n (.lq m [0,1,0,1,1,1,1,1,1]::vD) (Dm n m):=
 mB (G:=fun m Z=>zV n (.lq m [0,1,0,1,1,1,1,1,1]::vD) Z) (fun _ _ _ _ _ _ _ _ _ _=>k7) (fun m _ ih v0 v1 v2 v3 v4 v5 r1 r2 r3 o4=>k8.trans ((Dl n).2 _ _ ih v0 v1 v2 v3 v4 v5 r1 r2 r3 o4)) m
noncomputable def KW (n:Nat):{B:Notation→Int→T9→T9→T5→Option TJ // ∀ (a0:Notation) (o0:Int) (o1:T9) (o2:T9) (o3:T5),run (Aq n) [.at []] (s8 (lT 0 (lM (lK Notation.cel) kZ)) zN ((o0,()),o1,o2,o3,()) (a0,()) 101)=B a0 o0 o1 o2 o3}:=by
 apply jN
 intro a0 o0 o1 o2 o3
 simp (config:={maxSteps:=100000000,implicitDefEqProofs:=false}) only[go_sem,jE,jF,jA,jB,jG,jH,jJ,jK,jL,jD,jI,jM,Tryz.f219,jC,mixed,AP n,F0 n,OW n]
 exact rfl
noncomputable def MW:=fu fun n=>(KW n).1
theorem RO: ∀ (n:Nat) (a0:Notation) (o0:Int) (o1:T9) (o2:T9) (o3:T5) (r:TJ),MW n a0 o0 o1 o2 o3=some r→SG Tryz.prog 219 (lT 0 (lM (lK Notation.cel) kZ)) zN ((o0,()),o1,o2,o3,()) (a0,()) zO (lM (mK .i64) kZ) r
 |0,_,_,_,_,_,_,h=>by cases h
 |n+1,a0,o0,o1,o2,o3,r,h=>by
  exact okG (((KW n).2 a0 o0 o1 o2 o3).trans h) (gd (kV (qS (E6 n)) (kV (pH (WE n)) (kV (pH (EK n)) kW))) kX (p:=(kY (ld (fun b a r h=>(Pz n) a.1 b.1.1 b.2.1 b.2.2.1 b.2.2.2.1 r h)) lP))) Tryz.func219 Tryz.ntmps219 Tryz.results219
end Go.Abs
namespace Go.Abs
open Go.Proofs
set_option maxRecDepth 100000
set_option maxHeartbeats 4000000
noncomputable def Ba:AL TY:=(lM nh (lM (mK .i64) (lM (mK .i64) (lM (nj Notation.row) kZ))))
noncomputable def Bb:OL T0:=(lG (mT (ql kN.cel 6 kZ)) nM)
noncomputable def Bc:AL T4:=(lM (ue 66 (lK kP.cel)) kZ)
attribute [go_sem] Ba Bb Bc
noncomputable def MX (F:Str→Int→Int→(List Notation)→Option TT):=entXP true [] nM Ba Bb (lT 0 kZ) nM Bc (fun (b:Unit) (a:TY)=>F a.1 a.2.1 a.2.2.1 a.2.2.2.1)
attribute [go_sem] MX
@[reducible] noncomputable def VT (n:Nat):lF TT:=qv Tryz.prog Tryz.f33 n (p9 Tryz.prog [.tmp 8] [.arg 0 []] [] 0 Bb (lT 0 kZ)) (cl:=oS [(70,qR (nj Notation.row) (nj nq) (Po n))]) (pJ:=qa [] [] 0 nM Bc) (cp:=z6 [(71,MU (PW n))]) (Ab:=mU [71])
noncomputable def MY (n:Nat):{B:Str→Int→Int→(List Notation)→Option TT // ∀ (a0:Str) (a1:Int) (a2:Int) (a3:(List Notation)),run (VT n) [.at []] (s8 Ba nM () (a0,a1,a2,a3,()) 21)=B a0 a1 a2 a3}:=by
 apply jN
 intro a0 a1 a2 a3
 simp (config:={maxSteps:=100000000,implicitDefEqProofs:=false}) only[go_sem,jE,jF,jA,jB,jG,jH,jJ,jK,jL,jD,jI,jM,Tryz.f33,jC,mixed]
 exact rfl
noncomputable def PX:=fu fun n=>(MY n).1
theorem UU: ∀ (n:Nat) (a0:Str) (a1:Int) (a2:Int) (a3:(List Notation)) (r:TT),PX n a0 a1 a2 a3=some r→SP Tryz.prog 33 Ba nM () (a0,a1,a2,a3,()) true Bb (lT 0 kZ) nM Bc r
 |0,_,_,_,_,_,h=>by cases h
 |n+1,a0,a1,a2,a3,r,h=>by
  exact Qv (((MY n).2 a0 a1 a2 a3).trans h) (gd (kV (pH (UK n)) kW) kX (p:=(kY (ld (fun b a r h=>(UT n) a.1 a.2.1 a.2.2.1 a.2.2.2.1 r h)) lP))) Tryz.func33 Tryz.ntmps33 Tryz.results33
noncomputable def vn:OL Tx:=(lG (mT (alA 2 kZ)) (lG (mT (lT 3 kZ)) (lG (VI true kO.row) (lG (mT (ql kN.cel 6 kZ)) nM))))
noncomputable def vo:OL Tx:=(lG (mT (alA 2 kZ)) (lG (mT (lT 3 kZ)) (lG (VI true kO.row) (lG (mT (ql kN.cel 6 kZ)) nM))))
noncomputable def vp:OL Tx:=(lG (mT (alA 2 kZ)) (lG (mT (lT 3 kZ)) (lG (VI true kO.row) (lG (mT (ql kN.cel 6 kZ)) nM))))
noncomputable def vq:AL T4:=(lM (ue 66 (lK kP.cel)) kZ)
attribute [go_sem] vn vo vp vq
noncomputable def F1 (F:Te→kN→Option TU):=entXP true [.arg 0 [],.arg 1 [],.obj 0 0 [],.obj 1 0 []] vn (lT 0 (lT 1 kZ)) vo kZ vp vq (fun (b:Tx) (a:Unit)=>F b.2.2.1 b.2.2.2.1.1)
attribute [go_sem] F1
@[reducible] noncomputable def l6 (n:Nat):lF TU:=qv Tryz.prog Tryz.f273 n (p9 Tryz.prog [] [] [0,1,2,3] 4 vo kZ) (pJ:=qa [] [0,1,2,3] 4 vp vq) (co:=Na [(274,GK [.arg 0 []] uG (lT 0 kZ) uH (lM (lK kO.cel) kZ) uI uJ (fun (b:T0) (a:Unit)=>(Ft n) b.1.1))]) (AZ:=mU [274]) (AY:=mU [])
theorem OX (n:Nat):nP (l6 n) []=true:=by kernel_rfl
theorem OY (n:Nat):lS (l6 n) [] 1 2=true∧lS (l6 n) [] 0 4=true∧lS (l6 n) [] 1 4=true∧lS (l6 n) [] 2 4=true∧lS (l6 n) [] 0 5=true∧lS (l6 n) [] 1 5=true∧lS (l6 n) [] 2 5=true∧lS (l6 n) [] 4 5=true:=⟨by kernel_rfl,by kernel_rfl,by kernel_rfl,by kernel_rfl,by kernel_rfl,by kernel_rfl,by kernel_rfl,by kernel_rfl⟩
theorem OZ (n:Nat):Gq (l6 n) [] 2 3=true∧Gq (l6 n) [] 2 4=true∧Gq (l6 n) [] 2 5=true:=⟨by kernel_rfl,by kernel_rfl,by kernel_rfl⟩
attribute [go_sem] OX OY OZ
noncomputable def F2 (n:Nat):{B:Te→kN→Option TU // ∀ (o0:Te) (o1:kN),run (l6 n) [.at []] (s8 (lT 0 (lT 1 kZ)) vn ((),(),o0,(o1,()),()) () 7)=B o0 o1}:=by
 apply jN
 intro o0 o1
 simp (config:={maxSteps:=100000000,implicitDefEqProofs:=false}) only[go_sem,jE,jF,jA,jB,jG,jH,jJ,jK,jL,jD,jI,jM,Tryz.f273,jC,mixed]
 exact rfl
noncomputable def IL:=fu fun n=>(F2 n).1
theorem Ns: ∀ (n:Nat) (o0:Te) (o1:kN) (r:TU),IL n o0 o1=some r→SP Tryz.prog 273 (lT 0 (lT 1 kZ)) vn ((),(),o0,(o1,()),()) () true vo kZ vp vq r
 |0,_,_,_,h=>by cases h
 |n+1,o0,o1,r,h=>by
  exact Qv (((F2 n).2 o0 o1).trans h) (gd kW kX (c:=(mW (yZ (fun b a r h=>(IK n) b.1.1 r h)) tA))) Tryz.func273 Tryz.ntmps273 Tryz.results273
noncomputable def Ar:OL T0:=(lG (mT (ql kN.cel 6 kZ)) nM)
noncomputable def As:OL T0:=(lG (mT (ql kN.cel 6 kZ)) nM)
noncomputable def At:OL T0:=(lG (mT (ql kN.cel 6 kZ)) nM)
noncomputable def Au:AL T4:=(lM (ue 66 (lK kP.cel)) kZ)
attribute [go_sem] Ar As At Au
noncomputable def LQ (F:kN→Option Tv):=entXP true [.arg 0 []] Ar (lT 0 kZ) As (lM (lK kO.cel) kZ) At Au (fun (b:T0) (a:Unit)=>F b.1.1)
attribute [go_sem] LQ
@[reducible] noncomputable def UW (n:Nat):lF Tv:=qv Tryz.prog Tryz.f268 n (p9 Tryz.prog [.cell 2 80] [] [0] 1 As (lM (lK kO.cel) kZ)) (cl:=oS [(56,entV (rS (qR (zZ kN.cel) (lK Token.cel) (mh n)))),(59,entG [0] (wP (Ay kN.cel) vc) (Od 0 L3) (wP (Ay kN.cel) vc) (NI nh Ke) (fun (b:Tb) a=>(l8 n) b.1)),(122,entG [0] (wP (Ay kN.cel) vc) (Od 0 (XB nh L3)) (wP (Ay kN.cel) vc) (NI pQ Ke) (fun (b:Tb) a=>(mz n) b.1 a.1)),(159,entV (rS (qR (zZ kN.cel) pQ (An n))))]) (pJ:=qa [] [0] 1 At Au) (cp:=z6 [(60,nK (n9 n)),(141,yL (Ap n)),(274,Jl (Ft n))]) (Ab:=mU [60,141,274])
noncomputable def LR (n:Nat):{B:kN→Option Tv // ∀ (o0:kN),run (UW n) [.at []] (s8 (lT 0 kZ) Ar ((o0,()),()) () 47)=B o0}:=by
 apply jN
 intro o0
 simp (config:={maxSteps:=100000000,implicitDefEqProofs:=false}) only[go_sem,jE,jF,jA,jB,jG,jH,jJ,jK,jL,jD,jI,jM,Tryz.f268,jC,mixed]
 exact rfl
noncomputable def N3:=fu fun n=>(LR n).1
theorem Ub: ∀ (n:Nat) (o0:kN) (r:Tv),N3 n o0=some r→SP Tryz.prog 268 (lT 0 kZ) Ar ((o0,()),()) () true As (lM (lK kO.cel) kZ) At Au r
 |0,_,_,h=>by cases h
 |n+1,o0,r,h=>by
  exact Qv (((LR n).2 o0).trans h) (gd (kV (oa (nG (lZ n))) (kV (oI (fun b a r h=>(lU n) b.1 r h)) (kV (oI (fun b a r h=>(me n) b.1 a.1 r h)) (kV (oa (nG (Bv n))) kW)))) kX (p:=(kY (ld (fun b a r h=>(nT n) a.1 b.1.1 r h)) (kY (ld (fun b a r h=>(BP n) b.1.1 r h)) (kY (ld (fun b a r h=>(IK n) b.1.1 r h)) lP))))) Tryz.func268 Tryz.ntmps268 Tryz.results268
noncomputable def LS:DO:=⟨[],[],(nr (zK::zA::zA::zA::zT (nj Notation.row)::zK::zK::nr (nr (zA::[])))),[oC [zK,zK,zK,zK],oM (lK Notation.cel),oM (lK Notation.cel),oK],none,none⟩
noncomputable def Bd:AL Unit:=(alK (.raw (.pointer none)) nbK_r (alK (.bool false) nbK_b kZ))
noncomputable def Be:OL T3:=(lG (mT (u9 1 (u9 2 (u9 3 (lM (mK .i64) kZ))))) (lG (yS (lK Notation.cel)) (lG (yS (lK Notation.cel)) (lG Gr nM))))
attribute [go_sem] Bd Be
noncomputable def MZ (F:(List Notation)→Option TH):=entXP false [] nM (lM (nj Notation.row) kZ) nM Bd Be (lT 0 (alK (.bool true) nbK_b kZ)) (fun (b:Unit) (a:((List Notation)×Unit))=>F a.1)
attribute [go_sem] MZ
@[reducible] noncomputable def M1 (n:Nat):lF TH:=qv Tryz.prog Tryz.f197 n (Zy Tryz.prog [.tmp 2,.tmp 3] [] [] 0 nM Bd [.arg 0 [],.obj 0 0 [],.obj 0 1 [],.obj 0 2 []] Be (lT 0 (alK (.bool true) nbK_b kZ))) (cl:=oS [(218,LG (NR n)),(219,KV (MW n))]) (wU:=vR [([0,1,0,1,1],LS)])
attribute [go_sem] LS
noncomputable abbrev LU (v0:List Notation) (v1:Int) (v2:Int) (v3:Int) (r1:List (Str×Notation)) (r2:List (Str×Notation)) (r3:List (Str×Bool)):AState:=⟨(nQ (.ptr 0 0::qA::qA::qA:: .l5 false 4 (mp Notation.cells v0):: .int .i64 v1:: .int .i64 v2::nQ (nQ (qA::[])))),[.cells [.map 1,.map 2,.map 3,.int .i64 v3],.map (mp (mcT (lK Notation.cel)) r1),.map (mp (mcT (lK Notation.cel)) r2),.map (mp mcB r3)],0,[]⟩
abbrev Bf:=(List Notation)→Int→Int→Int→T9→T9→T5→Option TH
abbrev Bg (n:Nat) (K:List Kt) (Z:Bf):Prop:= ∀ (v0:List Notation) (v1:Int) (v2:Int) (v3:Int) (r1:List (Str×Notation)) (r2:List (Str×Notation)) (r3:List (Str×Bool)),run (M1 n) K (LU v0 v1 v2 v3 r1 r2 r3)=Z v0 v1 v2 v3 r1 r2 r3
attribute [go_sem] LU
noncomputable def Fv (n:Nat):{B:Bf→Bf // ∀m X0,Bg n (.lq m [0,1,0,1,1]::[.blk 0,.cut [1,1,1],.at [1,1,1]]) X0→Bg n (.at [0,0,1,0,1,1]:: .lp m [0,1,0,1,1]::[.blk 0,.cut [1,1,1],.at [1,1,1]]) (B X0)}:=by
 apply jN
 intro m X0 ih v0 v1 v2 v3 r1 r2 r3
 simp (config:={maxSteps:=100000000}) only[go_sem,jE,jF,jA,jB,jG,jH,jJ,jK,jL,jD,jI,jM,Tryz.f197,jC,mixed,ih]
 exact rfl
noncomputable def Fw (n:Nat):Nat→Bf:=FH ((Fv n).1)
theorem notation_indexOf_l1_s {n:Nat} {m:Nat}:Fw n (m+1)=(Fv n).1 (Fw n m):=rfl
theorem Q4 (n:Nat) (m:Nat):Bg n (.lq m [0,1,0,1,1]::[.blk 0,.cut [1,1,1],.at [1,1,1]]) (Fw n m):=
 mB (G:=fun m Z=>Bg n (.lq m [0,1,0,1,1]::[.blk 0,.cut [1,1,1],.at [1,1,1]]) Z) (fun _ _ _ _ _ _ _=>k7) (fun m _ ih v0 v1 v2 v3 r1 r2 r3=>k8.trans ((Fv n).2 _ _ ih v0 v1 v2 v3 r1 r2 r3)) m
noncomputable def M3 (n:Nat):{B:(List Notation)→Option TH // ∀ (a0:(List Notation)),run (M1 n) [.at []] (s8 (lM (nj Notation.row) kZ) nM () (a0,()) 20)=B a0}:=by
 apply jN
 intro a0
 simp (config:={maxSteps:=100000000}) only[go_sem,jE,jF,jA,jB,jG,jH,jJ,jK,jL,jD,jI,jM,Tryz.f197,jC,mixed,Q4 n]
 exact rfl
noncomputable def PY:=fu fun n=>(M3 n).1
theorem UX: ∀ (n:Nat) (a0:(List Notation)) (r:TH),PY n a0=some r→SP Tryz.prog 197 (lM (nj Notation.row) kZ) nM () (a0,()) false nM Bd Be (lT 0 (alK (.bool true) nbK_b kZ)) r
 |0,_,_,h=>by cases h
 |n+1,a0,r,h=>by
  exact okS (((M3 n).2 a0).trans h) (gd (kV (Dy (fun b a r h=>(SC n) r h)) (kV (Dy (fun b a r h=>(RO n) a.1 b.1.1 b.2.1 b.2.2.1 b.2.2.2.1 r h)) kW)) kX) Tryz.func197 Tryz.ntmps197 Tryz.results197
end Go.Abs
namespace Go.Abs
open Go.Proofs
set_option maxRecDepth 100000
set_option maxHeartbeats 4000000
noncomputable def sV:DO:=⟨[],[],(zK::zK::zA::zA::zK::nr (nr (zA::zA::[]))),[oT kN.cel,oC [zK],oC [zK],oA kO.row],none,none⟩
noncomputable def nv:AL (Unit×Unit):=(lT 0 (alF 273 (vlP 1 (vlP 2 vlN)) kZ))
noncomputable def nx:OL Tp:=(lG (mT (ql kN.cel 6 kZ)) (lG (mT (alA 3 kZ)) (lG (mT (lT 0 kZ)) (lG (VI true kO.row) nM))))
noncomputable def ny:OL Tp:=(lG (mT (ql kN.cel 6 kZ)) (lG (mT (alA 3 kZ)) (lG (mT (lT 0 kZ)) (lG (VI true kO.row) nM))))
noncomputable def nA:OL Tp:=(lG (mT (ql kN.cel 6 kZ)) (lG (mT (alA 3 kZ)) (lG (mT (lT 0 kZ)) (lG (VI true kO.row) nM))))
noncomputable def nB:AL T4:=(lM (ue 66 (lK kP.cel)) kZ)
attribute [go_sem] nv nx ny nA nB
noncomputable def th (F:kN→Te→Option TL):=entXP true [.arg 0 [],.arg 1 [0],.arg 1 [1],.obj 1 0 []] nx nv ny kZ nA nB (fun (b:Tp) (a:(Unit×Unit))=>F b.1.1 b.2.2.2.1)
attribute [go_sem] th
@[reducible] noncomputable def pO (n:Nat):lF TL:=qv Tryz.prog Tryz.f177 n (p9 Tryz.prog [] [] [0,1,2,3] 4 ny kZ) (cl:=oS [(122,entG [0] (wP (Ay kN.cel) vc) (Od 0 (XB nh L3)) (wP (Ay kN.cel) vc) (NI pQ Ke) (fun (b:Tb) a=>(mz n) b.1 a.1))]) (wU:=vR [([0,1],sV)]) (pJ:=qa [] [0,1,2,3] 4 nA nB) (cp:=z6 [(72,ng (mJ n)),(273,F1 (IL n))]) (Ab:=mU [72,273])
attribute [go_sem] sV
noncomputable abbrev pz (v0:Int) (o0:kN) (r3:List kO) (c3:Nat):AState:=⟨(.ptr 0 0:: .func (.func 273) [] [.ptr 1 0,.ptr 2 0]::qA::qA:: .int .i64 v0::nQ (nQ (qA::qA::[]))),[.cells (kN.cells o0),.cells [.acc 3 c3],.cells [.ptr 0 0],.acc true 2 (mp kO.cells r3)],4,[]⟩
abbrev nC:=Int→kN→Te→Option TL
abbrev pE (n:Nat) (K:List Kt) (Z:nC):Prop:= ∀ (v0:Int) (o0:kN) (r3:List kO) (c3:Nat),c3=r3.length→run (pO n) K (pz v0 o0 r3 c3)=Z v0 o0 r3
attribute [go_sem] pz
noncomputable def pF (n:Nat):{B:nC→nC // ∀m X0,pE n (.lq m [0,1]::[.blk 0]) X0→ ∀ (v0:Int) (o0:kN) (r3:List kO),run (pO n) (.at [0,0,1]:: .lp m [0,1]::[.blk 0]) (pz v0 o0 r3 (r3.length))=B X0 v0 o0 r3}:=by
 apply jN
 intro m X0 ih v0 o0 r3
 simp (config:={maxSteps:=100000000,implicitDefEqProofs:=false}) only[go_sem,jE,jF,jA,jB,jG,jH,jJ,jK,jL,jD,jI,jM,Tryz.f177,jC,mixed,ih]
 exact rfl
noncomputable def pG (n:Nat):Nat→nC:=FH ((pF n).1)
theorem Nt {n:Nat} {m:Nat}:pG n (m+1)=(pF n).1 (pG n m):=rfl
theorem z1 (n:Nat) (m:Nat):pE n (.lq m [0,1]::[.blk 0]) (pG n m):=
 mB (G:=fun m Z=>pE n (.lq m [0,1]::[.blk 0]) Z) (fun _ _ _ _ _=>k7) (fun m _ ih=>by
  intro v0 o0 r3 c3 ec3
  subst ec3
  rw[k8]
  exact (pF n).2 _ _ ih v0 o0 r3) m
noncomputable def tj (n:Nat):{B:kN→Te→Option TL // ∀ (o0:kN) (o1:Te),run (pO n) [.at []] (s8 nv nx ((o0,()),(),(),o1,()) ((),()) 15)=B o0 o1}:=by
 apply jN
 intro o0 o1
 simp (config:={maxSteps:=100000000,implicitDefEqProofs:=false}) only[go_sem,jE,jF,jA,jB,jG,jH,jJ,jK,jL,jD,jI,jM,Tryz.f177,jC,mixed,z1 n]
 exact rfl
noncomputable def uc:=fu fun n=>(tj n).1
theorem AQ: ∀ (n:Nat) (o0:kN) (o1:Te) (r:TL),uc n o0 o1=some r→SP Tryz.prog 177 nv nx ((o0,()),(),(),o1,()) ((),()) true ny kZ nA nB r
 |0,_,_,_,h=>by cases h
 |n+1,o0,o1,r,h=>by
  exact Qv (((tj n).2 o0 o1).trans h) (gd (kV (oI (fun b a r h=>(me n) b.1 a.1 r h)) kW) kX (p:=(kY (ld (fun b a r h=>(mm n) a.1 b.1.1 r h)) (kY (ld (fun b a r h=>(Ns n) b.2.2.1 b.2.2.2.1.1 r h)) lP)))) Tryz.func177 Tryz.ntmps177 Tryz.results177
@[reducible] noncomputable def PZ (n:Nat):lF TO:=qv Tryz.prog Tryz.f164 n (outU (Mt [(198,IY [.arg 0 [],.arg 1 [],.arg 2 [],.arg 3 [],.obj 0 0 [],.obj 4 0 [],.obj 5 0 [],.obj 5 1 [],.obj 5 2 []] lH (lT 0 (lT 1 (lT 2 (lT 3 kZ)))) qm kZ (fun (b:Tc) (a:Unit)=>(A1 n) b.2.1.1 b.2.2.1.1 b.2.2.2.1.1 b.2.2.2.2.1.1 b.2.2.2.2.1.2.1 b.2.2.2.2.2.1.1 b.2.2.2.2.2.2.1 b.2.2.2.2.2.2.2.1 b.2.2.2.2.2.2.2.2.1))]) (Mt [(198,IY [.arg 0 [],.arg 1 [],.arg 2 [],.arg 3 [],.obj 0 0 [],.obj 4 0 [],.obj 5 0 [],.obj 5 1 [],.obj 5 2 []] lI rU qn kZ (fun (b:Tc) (a:(Unit×Unit))=>(A2 n) a.1 b.2.1.1 b.2.2.1.1 b.2.2.2.1.1 b.2.2.2.2.1.1 b.2.2.2.2.1.2.1 b.2.2.2.2.2.1.1 b.2.2.2.2.2.2.1 b.2.2.2.2.2.2.2.1 b.2.2.2.2.2.2.2.2.1))]) Tryz.prog [.cell 4 29,.cell 5 3,.cell 6 30] (ty3 (lK Syntax.cel) (mK .i64) (mK .i64))) (pJ:=outUP (Mt [(198,IY [.arg 0 [],.arg 1 [],.arg 2 [],.arg 3 [],.obj 0 0 [],.obj 4 0 [],.obj 5 0 [],.obj 5 1 [],.obj 5 2 []] lH (lT 0 (lT 1 (lT 2 (lT 3 kZ)))) qm kZ (fun (b:Tc) (a:Unit)=>(A1 n) b.2.1.1 b.2.2.1.1 b.2.2.2.1.1 b.2.2.2.2.1.1 b.2.2.2.2.1.2.1 b.2.2.2.2.2.1.1 b.2.2.2.2.2.2.1 b.2.2.2.2.2.2.2.1 b.2.2.2.2.2.2.2.2.1))]) (Mt [(198,IY [.arg 0 [],.arg 1 [],.arg 2 [],.arg 3 [],.obj 0 0 [],.obj 4 0 [],.obj 5 0 [],.obj 5 1 [],.obj 5 2 []] lI rU qn kZ (fun (b:Tc) (a:(Unit×Unit))=>(A2 n) a.1 b.2.1.1 b.2.2.1.1 b.2.2.2.1.1 b.2.2.2.2.1.1 b.2.2.2.2.1.2.1 b.2.2.2.2.2.1.1 b.2.2.2.2.2.2.1 b.2.2.2.2.2.2.2.1 b.2.2.2.2.2.2.2.2.1))]) Tryz.prog [.cell 4 29,.cell 5 3,.cell 6 30] (ty3 (lK Syntax.cel) (mK .i64) (mK .i64))) (cp:=z6 [(197,MZ (PY n)),(199,CB (oU n))]) (Ab:=mU [197,199])
noncomputable def P0 (n:Nat):{B:(List Notation)→(List Syntax)→Option TO // ∀ (a0:(List Notation)) (a1:(List Syntax)),run (PZ n) [.at []] (ini [(nj Notation.row).enc a0,(nj Syntax.row).enc a1] 42)=B a0 a1}:=by
 apply jN
 intro a0 a1
 simp (config:={maxSteps:=100000000,implicitDefEqProofs:=false}) only[go_sem,jE,jF,jA,jB,jG,jH,jJ,jK,jL,jD,jI,jM,Tryz.f164,jC,mixed]
 exact rfl
noncomputable def Uc:=fu fun n=>(P0 n).1
theorem WG: ∀ (n:Nat) (a0:(List Notation)) (a1:(List Syntax)) (r:TO),Uc n a0 a1=some r→yP Tryz.prog 164 [(nj Notation.row).enc a0,(nj Syntax.row).enc a1] (fun v=>v=(ty3 (lK Syntax.cel) (mK .i64) (mK .i64)).enc r)
 |0,_,_,_,h=>by cases h
 |n+1,a0,a1,r,h=>by
  exact fnC_runU (M:=PZ n) (t:=(ty3 (lK Syntax.cel) (mK .i64) (mK .i64))) (cr:=(Mt [(198,IY [.arg 0 [],.arg 1 [],.arg 2 [],.arg 3 [],.obj 0 0 [],.obj 4 0 [],.obj 5 0 [],.obj 5 1 [],.obj 5 2 []] lH (lT 0 (lT 1 (lT 2 (lT 3 kZ)))) qm kZ (fun (b:Tc) (a:Unit)=>(A1 n) b.2.1.1 b.2.2.1.1 b.2.2.2.1.1 b.2.2.2.2.1.1 b.2.2.2.2.1.2.1 b.2.2.2.2.2.1.1 b.2.2.2.2.2.2.1 b.2.2.2.2.2.2.2.1 b.2.2.2.2.2.2.2.2.1))])) (cp:=(Mt [(198,IY [.arg 0 [],.arg 1 [],.arg 2 [],.arg 3 [],.obj 0 0 [],.obj 4 0 [],.obj 5 0 [],.obj 5 1 [],.obj 5 2 []] lI rU qn kZ (fun (b:Tc) (a:(Unit×Unit))=>(A2 n) a.1 b.2.1.1 b.2.2.1.1 b.2.2.2.1.1 b.2.2.2.2.1.1 b.2.2.2.2.1.2.1 b.2.2.2.2.2.1.1 b.2.2.2.2.2.2.1 b.2.2.2.2.2.2.2.1 b.2.2.2.2.2.2.2.2.1))])) ⟨kW,kX,rz _,rA _,wh,wk,(kY (ld (fun b a r h=>(UX n) a.1 r h)) (kY (ld (fun b a r h=>(PK n) a.1 b.1.1 b.1.2.1 b.2.1.1 b.2.2.1 b.2.2.2.1 b.2.2.2.2.1 r h)) lP)),xZ⟩ (Hv (Pj WY (fun _ _ _ _=>rfl) (by kernel_rfl) (fun b a r h=>(QA n) b.2.1.1 b.2.2.1.1 b.2.2.2.1.1 b.2.2.2.2.1.1 b.2.2.2.2.1.2.1 b.2.2.2.2.2.1.1 b.2.2.2.2.2.2.1 b.2.2.2.2.2.2.2.1 b.2.2.2.2.2.2.2.2.1 r h)) Kg) (Hv (Pj WZ (fun _ _ _ _=>rfl) (by kernel_rfl) (fun b a r h=>(QB n) a.1 b.2.1.1 b.2.2.1.1 b.2.2.2.1.1 b.2.2.2.2.1.1 b.2.2.2.2.1.2.1 b.2.2.2.2.2.1.1 b.2.2.2.2.2.2.1 b.2.2.2.2.2.2.2.1 b.2.2.2.2.2.2.2.2.1 r h)) Kg) Tryz.func164 rfl rfl ⟨(nj Notation.row).nb 0 _,(nj Syntax.row).nb 0 _,trivial⟩ Tryz.ntmps164 Tryz.results164 rfl rfl (((P0 n).2 a0 a1).trans h)
end Go.Abs
namespace Go.Abs
open Go.Proofs
set_option maxRecDepth 100000
set_option maxHeartbeats 4000000
noncomputable def xR:OL T0:=(lG (mT (ql kN.cel 6 kZ)) nM)
noncomputable def xS:OL T0:=(lG (mT (ql kN.cel 6 kZ)) nM)
noncomputable def xT:OL T0:=(lG (mT (ql kN.cel 6 kZ)) nM)
noncomputable def xU:AL T4:=(lM (ue 66 (lK kP.cel)) kZ)
attribute [go_sem] xR xS xT xU
noncomputable def IM (F:kN→Option TM):=entXP true [.arg 0 []] xR (lT 0 kZ) xS (lM (nj kO.row) kZ) xT xU (fun (b:T0) (a:Unit)=>F b.1.1)
attribute [go_sem] IM
@[reducible] noncomputable def Q5 (n:Nat):lF TM:=qv Tryz.prog Tryz.f267 n (p9 Tryz.prog [.tmp 2] [] [0] 1 xS (lM (nj kO.row) kZ)) (cl:=oS [(122,entG [0] (wP (Ay kN.cel) vc) (Od 0 (XB nh L3)) (wP (Ay kN.cel) vc) (NI pQ Ke) (fun (b:Tb) a=>(mz n) b.1 a.1))]) (cut:=tabGM [] [([1,1,1],2,0,2,true)]) (pJ:=qa [] [0] 1 xT xU) (cp:=z6 [(60,nK (n9 n)),(177,th (uc n))]) (Ab:=mU [60,177])
noncomputable def IN (n:Nat):{B:kN→Option TM // ∀ (o0:kN),run (Q5 n) [.at []] (s8 (lT 0 kZ) xR ((o0,()),()) () 19)=B o0}:=by
 apply jN
 intro o0
 simp (config:={maxSteps:=100000000,implicitDefEqProofs:=false}) only[go_sem,jE,jF,jA,jB,jG,jH,jJ,jK,jL,jD,jI,jM,Tryz.f267,jC,mixed]
 exact rfl
noncomputable def KX:=fu fun n=>(IN n).1
theorem P1: ∀ (n:Nat) (o0:kN) (r:TM),KX n o0=some r→SP Tryz.prog 267 (lT 0 kZ) xR ((o0,()),()) () true xS (lM (nj kO.row) kZ) xT xU r
 |0,_,_,h=>by cases h
 |n+1,o0,r,h=>by
  exact Qv (((IN n).2 o0).trans h) (gdM (kV (oI (fun b a r h=>(me n) b.1 a.1 r h)) kW) kX (p:=(kY (ld (fun b a r h=>(nT n) a.1 b.1.1 r h)) (kY (ld (fun b a r h=>(AQ n) b.1.1 b.2.2.2.1 r h)) lP)))) Tryz.func267 Tryz.ntmps267 Tryz.results267
end Go.Abs
namespace Go.Abs
open Go.Proofs
set_option maxRecDepth 100000
set_option maxHeartbeats 4000000
noncomputable def pS:OL T0:=(lG (mT (ql kN.cel 6 kZ)) nM)
noncomputable def oh:OL T0:=(lG (mT (ql kN.cel 6 kZ)) nM)
noncomputable def om:OL T0:=(lG (mT (ql kN.cel 6 kZ)) nM)
noncomputable def oo:AL T4:=(lM (ue 66 (lK kP.cel)) kZ)
attribute [go_sem] pS oh om oo
noncomputable def rN (F:kN→Option T6):=entXP true [.arg 0 []] pS (lT 0 kZ) oh (lM (lK Syntax.cel) kZ) om oo (fun (b:T0) (a:Unit)=>F b.1.1)
attribute [go_sem] rN
noncomputable def wB:OL T0:=(lG (mT (ql kN.cel 6 kZ)) nM)
noncomputable def wC:OL T0:=(lG (mT (ql kN.cel 6 kZ)) nM)
noncomputable def wD:OL T0:=(lG (mT (ql kN.cel 6 kZ)) nM)
noncomputable def wE:AL T4:=(lM (ue 66 (lK kP.cel)) kZ)
attribute [go_sem] wB wC wD wE
noncomputable def LV (F:Int→kN→Option T6):=entXP true [.arg 0 []] wB (lT 0 (lM (mK .i64) kZ)) wC (lM (lK Syntax.cel) kZ) wD wE (fun (b:T0) (a:(Int×Unit))=>F a.1 b.1.1)
attribute [go_sem] LV
noncomputable def q4:OL T0:=(lG (mT (ql kN.cel 6 kZ)) nM)
noncomputable def q5:OL T0:=(lG (mT (ql kN.cel 6 kZ)) nM)
noncomputable def q6:OL T0:=(lG (mT (ql kN.cel 6 kZ)) nM)
noncomputable def q7:AL T4:=(lM (ue 66 (lK kP.cel)) kZ)
attribute [go_sem] q4 q5 q6 q7
noncomputable def IP (F:Str→Str→kN→Option Tw):=entXP true [.arg 0 []] q4 (lT 0 (lM nh (lM nh kZ))) q5 (lM (nj kT.row) kZ) q6 q7 (fun (b:T0) (a:(Str×(Str×Unit)))=>F a.1 a.2.1 b.1.1)
attribute [go_sem] IP
noncomputable def wF:OL T0:=(lG (mT (ql kN.cel 6 kZ)) nM)
noncomputable def wG:OL T0:=(lG (mT (ql kN.cel 6 kZ)) nM)
noncomputable def wH:OL T0:=(lG (mT (ql kN.cel 6 kZ)) nM)
noncomputable def wI:AL T4:=(lM (ue 66 (lK kP.cel)) kZ)
attribute [go_sem] wF wG wH wI
noncomputable def LW (F:Int→kN→Option T6):=entXP true [.arg 0 []] wF (lT 0 (lM (mK .i64) kZ)) wG (lM (lK Syntax.cel) kZ) wH wI (fun (b:T0) (a:(Int×Unit))=>F a.1 b.1.1)
attribute [go_sem] LW
noncomputable def uK:OL T0:=(lG (mT (ql kN.cel 6 kZ)) nM)
noncomputable def uL:OL T0:=(lG (mT (ql kN.cel 6 kZ)) nM)
noncomputable def uM:OL T0:=(lG (mT (ql kN.cel 6 kZ)) nM)
noncomputable def uN:AL T4:=(lM (ue 66 (lK kP.cel)) kZ)
attribute [go_sem] uK uL uM uN
noncomputable def Jt (F:Int→kN→Option T6):=entXP true [.arg 0 []] uK (lT 0 (lM (mK .i64) kZ)) uL (lM (lK Syntax.cel) kZ) uM uN (fun (b:T0) (a:(Int×Unit))=>F a.1 b.1.1)
attribute [go_sem] Jt
noncomputable def yp:OL T0:=(lG (mT (ql kN.cel 6 kZ)) nM)
noncomputable def yq:OL T0:=(lG (mT (ql kN.cel 6 kZ)) nM)
noncomputable def yt:OL T0:=(lG (mT (ql kN.cel 6 kZ)) nM)
noncomputable def yu:AL T4:=(lM (ue 66 (lK kP.cel)) kZ)
attribute [go_sem] yp yq yt yu
noncomputable def M4 (F:kN→Option T6):=entXP true [.arg 0 []] yp (lT 0 kZ) yq (lM (lK Syntax.cel) kZ) yt yu (fun (b:T0) (a:Unit)=>F b.1.1)
attribute [go_sem] M4
noncomputable def vE:OL T0:=(lG (mT (ql kN.cel 6 kZ)) nM)
noncomputable def vF:OL T0:=(lG (mT (ql kN.cel 6 kZ)) nM)
noncomputable def vG:OL T0:=(lG (mT (ql kN.cel 6 kZ)) nM)
noncomputable def vH:AL T4:=(lM (ue 66 (lK kP.cel)) kZ)
attribute [go_sem] vE vF vG vH
noncomputable def KY (F:kN→Option T6):=entXP true [.arg 0 []] vE (lT 0 kZ) vF (lM (lK Syntax.cel) kZ) vG vH (fun (b:T0) (a:Unit)=>F b.1.1)
attribute [go_sem] KY
noncomputable def wJ:OL T0:=(lG (mT (ql kN.cel 6 kZ)) nM)
noncomputable def wK:OL T0:=(lG (mT (ql kN.cel 6 kZ)) nM)
noncomputable def wL:OL T0:=(lG (mT (ql kN.cel 6 kZ)) nM)
noncomputable def wM:AL T4:=(lM (ue 66 (lK kP.cel)) kZ)
attribute [go_sem] wJ wK wL wM
noncomputable def LX (F:kN→Option T6):=entXP true [.arg 0 []] wJ (lT 0 kZ) wK (lM (lK Syntax.cel) kZ) wL wM (fun (b:T0) (a:Unit)=>F b.1.1)
attribute [go_sem] LX
noncomputable def vI:OL T0:=(lG (mT (ql kN.cel 6 kZ)) nM)
noncomputable def vJ:OL T0:=(lG (mT (ql kN.cel 6 kZ)) nM)
noncomputable def vK:OL T0:=(lG (mT (ql kN.cel 6 kZ)) nM)
noncomputable def vL:AL T4:=(lM (ue 66 (lK kP.cel)) kZ)
attribute [go_sem] vI vJ vK vL
noncomputable def KZ (F:kN→Option T6):=entXP true [.arg 0 []] vI (lT 0 kZ) vJ (lM (lK Syntax.cel) kZ) vK vL (fun (b:T0) (a:Unit)=>F b.1.1)
attribute [go_sem] KZ
noncomputable def uO:OL T0:=(lG (mT (ql kN.cel 6 kZ)) nM)
noncomputable def uP:OL T0:=(lG (mT (ql kN.cel 6 kZ)) nM)
noncomputable def uQ:OL T0:=(lG (mT (ql kN.cel 6 kZ)) nM)
noncomputable def uR:AL T4:=(lM (ue 66 (lK kP.cel)) kZ)
attribute [go_sem] uO uP uQ uR
noncomputable def Ju (F:kN→Option T6):=entXP true [.arg 0 []] uO (lT 0 kZ) uP (lM (lK Syntax.cel) kZ) uQ uR (fun (b:T0) (a:Unit)=>F b.1.1)
attribute [go_sem] Ju
noncomputable def tL:OL T0:=(lG (mT (ql kN.cel 6 kZ)) nM)
noncomputable def tM:OL T0:=(lG (mT (ql kN.cel 6 kZ)) nM)
noncomputable def tN:OL T0:=(lG (mT (ql kN.cel 6 kZ)) nM)
noncomputable def tO:AL T4:=(lM (ue 66 (lK kP.cel)) kZ)
attribute [go_sem] tL tM tN tO
noncomputable def IQ (F:Syntax→kN→Option T6):=entXP true [.arg 0 []] tL (lT 0 (lM (lK Syntax.cel) kZ)) tM (lM (lK Syntax.cel) kZ) tN tO (fun (b:T0) (a:(Syntax×Unit))=>F a.1 b.1.1)
attribute [go_sem] IQ
noncomputable def vM:OL T8:=(lG (mT (ql kN.cel 6 kZ)) (lG (mT (ql Syntax.cel 8 kZ)) nM))
noncomputable def vN:OL T8:=(lG (mT (ql kN.cel 6 kZ)) (lG (mT (ql Syntax.cel 8 kZ)) nM))
noncomputable def vO:OL T8:=(lG (mT (ql kN.cel 6 kZ)) (lG (mT (ql Syntax.cel 8 kZ)) nM))
noncomputable def vP:AL T4:=(lM (ue 66 (lK kP.cel)) kZ)
attribute [go_sem] vM vN vO vP
noncomputable def K0 (F:kN→Syntax→Option Tl):=entXP true [.arg 0 [],.arg 1 []] vM (lT 0 (lT 1 kZ)) vN kZ vO vP (fun (b:T8) (a:Unit)=>F b.1.1 b.2.1.1)
attribute [go_sem] K0
noncomputable def sW:OL T0:=(lG (mT (ql kN.cel 6 kZ)) nM)
noncomputable def sX:OL T0:=(lG (mT (ql kN.cel 6 kZ)) nM)
noncomputable def sY:OL T0:=(lG (mT (ql kN.cel 6 kZ)) nM)
noncomputable def sZ:AL T4:=(lM (ue 66 (lK kP.cel)) kZ)
attribute [go_sem] sW sX sY sZ
noncomputable def BR (F:kN→Option Tu):=entXP true [.arg 0 []] sW (lT 0 kZ) sX (lM (nj Syntax.row) kZ) sY sZ (fun (b:T0) (a:Unit)=>F b.1.1)
attribute [go_sem] BR
noncomputable def qg:OL T0:=(lG (mT (ql kN.cel 6 kZ)) nM)
noncomputable def qh:OL T0:=(lG (mT (ql kN.cel 6 kZ)) nM)
noncomputable def qi:OL T0:=(lG (mT (ql kN.cel 6 kZ)) nM)
noncomputable def qj:AL T4:=(lM (ue 66 (lK kP.cel)) kZ)
attribute [go_sem] qg qh qi qj
noncomputable def CZ (F:kN→Option T6):=entXP true [.arg 0 []] qg (lT 0 kZ) qh (lM (lK Syntax.cel) kZ) qi qj (fun (b:T0) (a:Unit)=>F b.1.1)
attribute [go_sem] CZ
noncomputable def tP:OL T0:=(lG (mT (ql kN.cel 6 kZ)) nM)
noncomputable def q8:OL T0:=(lG (mT (ql kN.cel 6 kZ)) nM)
noncomputable def q9:OL T0:=(lG (mT (ql kN.cel 6 kZ)) nM)
noncomputable def rj:AL T4:=(lM (ue 66 (lK kP.cel)) kZ)
attribute [go_sem] tP q8 q9 rj
noncomputable def CL (F:kN→Option T6):=entXP true [.arg 0 []] tP (lT 0 kZ) q8 (lM (lK Syntax.cel) kZ) q9 rj (fun (b:T0) (a:Unit)=>F b.1.1)
attribute [go_sem] CL
noncomputable def uS:OL T8:=(lG (mT (ql kN.cel 6 kZ)) (lG (mT (ql Syntax.cel 8 kZ)) nM))
noncomputable def uT:OL T8:=(lG (mT (ql kN.cel 6 kZ)) (lG (mT (ql Syntax.cel 8 kZ)) nM))
noncomputable def uU:OL T8:=(lG (mT (ql kN.cel 6 kZ)) (lG (mT (ql Syntax.cel 8 kZ)) nM))
noncomputable def uV:AL T4:=(lM (ue 66 (lK kP.cel)) kZ)
attribute [go_sem] uS uT uU uV
noncomputable def Dn (F:kN→Syntax→Option Tl):=entXP true [.arg 0 [],.arg 1 []] uS (lT 0 (lT 1 kZ)) uT kZ uU uV (fun (b:T8) (a:Unit)=>F b.1.1 b.2.1.1)
attribute [go_sem] Dn
noncomputable def uW:OL T8:=(lG (mT (ql kN.cel 6 kZ)) (lG (mT (ql Syntax.cel 8 kZ)) nM))
noncomputable def uX:OL T8:=(lG (mT (ql kN.cel 6 kZ)) (lG (mT (ql Syntax.cel 8 kZ)) nM))
noncomputable def uY:OL T8:=(lG (mT (ql kN.cel 6 kZ)) (lG (mT (ql Syntax.cel 8 kZ)) nM))
noncomputable def uZ:AL T4:=(lM (ue 66 (lK kP.cel)) kZ)
attribute [go_sem] uW uX uY uZ
noncomputable def Jv (F:kN→Syntax→Option Tl):=entXP true [.arg 0 [],.arg 1 []] uW (lT 0 (lT 1 kZ)) uX kZ uY uZ (fun (b:T8) (a:Unit)=>F b.1.1 b.2.1.1)
attribute [go_sem] Jv
noncomputable def qz:AL TV:=(lT 0 (lM (lK Syntax.cel) (lM (nj kT.row) (lM nh kZ))))
noncomputable def qB:OL T0:=(lG (mT (ql kN.cel 6 kZ)) nM)
noncomputable def qC:OL T0:=(lG (mT (ql kN.cel 6 kZ)) nM)
noncomputable def qD:OL T0:=(lG (mT (ql kN.cel 6 kZ)) nM)
noncomputable def qE:AL T4:=(lM (ue 66 (lK kP.cel)) kZ)
attribute [go_sem] qz qB qC qD qE
noncomputable def P2 (F:Syntax→Ti→Str→kN→Option T6):=entXP true [.arg 0 []] qB qz qC (lM (lK Syntax.cel) kZ) qD qE (fun (b:T0) (a:TV)=>F a.1 a.2.1 a.2.2.1 b.1.1)
attribute [go_sem] P2
structure kS where
 mw:kN→Option T6
 sD:Int→kN→Option T6
 oZ:Str→Str→kN→Option Tw
 sE:Int→kN→Option T6
 qG:Int→kN→Option T6
 tQ:kN→Option T6
 rO:kN→Option T6
 sF:kN→Option T6
 rP:kN→Option T6
 qH:kN→Option T6
 qk:Syntax→kN→Option T6
 rQ:kN→Syntax→Option Tl
 ot:kN→Option Tu
 nL:kN→Option T6
 o9:kN→Option T6
 pX:kN→Syntax→Option Tl
 qI:kN→Syntax→Option Tl
 pT:Syntax→Ti→Str→kN→Option T6
end Go.Abs
namespace Go.Abs
open Go.Proofs
set_option maxRecDepth 100000
set_option maxHeartbeats 4000000
@[reducible] noncomputable def k4 (X:kS) (n:Nat):lF T6:=qv Tryz.prog Tryz.f34 n (outDR (Mt [(73,IY [.arg 0 [],.obj 0 0 []] rD (lT 0 kZ) rE kZ (fun (b:(Unit×T0)) (a:Unit)=>(Bt n) b.2.1.1))]) (p9 Tryz.prog [.cell 2 29] [] [0] 1 oh (lM (lK Syntax.cel) kZ)) (qa [] [0] 1 om oo)) (cl:=oS [(58,entV (rS (qR (zZ kN.cel) (mK .i64) (tu n)))),(59,entG [0] (wP (Ay kN.cel) vc) (Od 0 L3) (wP (Ay kN.cel) vc) (NI nh Ke) (fun (b:Tb) a=>(l8 n) b.1)),(74,entV (rS (Sm (zZ kN.cel) (mK .i64) nh pQ (yT n)))),(79,entV (rS (yR (zZ kN.cel) nh pQ (n4 n))))]) (pJ:=outDP (Mt [(73,IY [.arg 0 [],.obj 0 0 []] rD (lT 0 kZ) rE kZ (fun (b:(Unit×T0)) (a:Unit)=>(Bt n) b.2.1.1))]) (p9 Tryz.prog [.cell 2 29] [] [0] 1 oh (lM (lK Syntax.cel) kZ)) (qa [] [0] 1 om oo)) (co:=Na [(72,GK [.arg 0 []] qL (lT 0 (lM (mK .i64) kZ)) qM kZ qN qO (fun (b:T0) (a:(Int×Unit))=>(mJ n) a.1 b.1.1)),(77,GK [.arg 0 []] qB qz qC (lM (lK Syntax.cel) kZ) qD qE (fun (b:T0) (a:TV)=>X.pT a.1 a.2.1 a.2.2.1 b.1.1)),(78,GK [.arg 0 []] q4 (lT 0 (lM nh (lM nh kZ))) q5 (lM (nj kT.row) kZ) q6 q7 (fun (b:T0) (a:(Str×(Str×Unit)))=>X.oZ a.1 a.2.1 b.1.1))]) (cp:=z6 [(75,LV X.sD),(76,LW X.sE),(80,Jt X.qG)]) (Ab:=mU [75,76,80]) (AZ:=mU [72,77,78]) (AY:=mU [])
theorem Ud (X:kS) (n:Nat):nP (k4 X n) [0,0,1,1,1,1,1,1,1,0,0,1,1,1,1,1]=true∧nP (k4 X n) [0,0,1,1,1,1,1,1,1,1,1,0,0,1,1,1,1,1]=true∧nP (k4 X n) [0,1]=true∧nP (k4 X n) [0,1,0,1,1,1,1,1,0,0,1,1,1,1,1]=true:=⟨by kernel_rfl,by kernel_rfl,by kernel_rfl,by kernel_rfl⟩
theorem Ue (X:kS) (n:Nat):lS (k4 X n) [0,0,1,1,1,1,1,1,1,0,0,1,1,1,1,1] 3 4=true∧lS (k4 X n) [0,0,1,1,1,1,1,1,1,0,0,1,1,1,1,1] 0 5=true∧lS (k4 X n) [0,0,1,1,1,1,1,1,1,0,0,1,1,1,1,1] 3 5=true∧lS (k4 X n) [0,0,1,1,1,1,1,1,1,0,0,1,1,1,1,1] 4 5=true∧lS (k4 X n) [0,0,1,1,1,1,1,1,1,0,0,1,1,1,1,1] 0 6=true∧lS (k4 X n) [0,0,1,1,1,1,1,1,1,0,0,1,1,1,1,1] 3 6=true∧lS (k4 X n) [0,0,1,1,1,1,1,1,1,0,0,1,1,1,1,1] 4 6=true∧lS (k4 X n) [0,0,1,1,1,1,1,1,1,0,0,1,1,1,1,1] 5 6=true∧lS (k4 X n) [0,0,1,1,1,1,1,1,1,1,1,0,0,1,1,1,1,1] 3 4=true∧lS (k4 X n) [0,0,1,1,1,1,1,1,1,1,1,0,0,1,1,1,1,1] 0 5=true∧lS (k4 X n) [0,0,1,1,1,1,1,1,1,1,1,0,0,1,1,1,1,1] 3 5=true∧lS (k4 X n) [0,0,1,1,1,1,1,1,1,1,1,0,0,1,1,1,1,1] 4 5=true∧lS (k4 X n) [0,0,1,1,1,1,1,1,1,1,1,0,0,1,1,1,1,1] 0 6=true∧lS (k4 X n) [0,0,1,1,1,1,1,1,1,1,1,0,0,1,1,1,1,1] 3 6=true∧lS (k4 X n) [0,0,1,1,1,1,1,1,1,1,1,0,0,1,1,1,1,1] 4 6=true∧lS (k4 X n) [0,0,1,1,1,1,1,1,1,1,1,0,0,1,1,1,1,1] 5 6=true∧lS (k4 X n) [0,1] 0 7=true∧lS (k4 X n) [0,1] 3 7=true∧lS (k4 X n) [0,1] 6 7=true∧lS (k4 X n) [0,1,0,1,1,1,1,1,0,0,1,1,1,1,1] 3 4=true∧lS (k4 X n) [0,1,0,1,1,1,1,1,0,0,1,1,1,1,1] 0 5=true∧lS (k4 X n) [0,1,0,1,1,1,1,1,0,0,1,1,1,1,1] 3 5=true∧lS (k4 X n) [0,1,0,1,1,1,1,1,0,0,1,1,1,1,1] 4 5=true∧lS (k4 X n) [0,1,0,1,1,1,1,1,0,0,1,1,1,1,1] 0 6=true∧lS (k4 X n) [0,1,0,1,1,1,1,1,0,0,1,1,1,1,1] 3 6=true∧lS (k4 X n) [0,1,0,1,1,1,1,1,0,0,1,1,1,1,1] 4 6=true∧lS (k4 X n) [0,1,0,1,1,1,1,1,0,0,1,1,1,1,1] 5 6=true:=⟨by kernel_rfl,by kernel_rfl,by kernel_rfl,by kernel_rfl,by kernel_rfl,by kernel_rfl,by kernel_rfl,by kernel_rfl,by kernel_rfl,by kernel_rfl,by kernel_rfl,by kernel_rfl,by kernel_rfl,by kernel_rfl,by kernel_rfl,by kernel_rfl,by kernel_rfl,by kernel_rfl,by kernel_rfl,by kernel_rfl,by kernel_rfl,by kernel_rfl,by kernel_rfl,by kernel_rfl,by kernel_rfl,by kernel_rfl,by kernel_rfl⟩
theorem Uf (X:kS) (n:Nat):Gq (k4 X n) [0,0,1,1,1,1,1,1,1,0,0,1,1,1,1,1] 4 5=true∧Gq (k4 X n) [0,0,1,1,1,1,1,1,1,0,0,1,1,1,1,1] 4 6=true∧Gq (k4 X n) [0,0,1,1,1,1,1,1,1,0,0,1,1,1,1,1] 5 6=true∧Gq (k4 X n) [0,0,1,1,1,1,1,1,1,1,1,0,0,1,1,1,1,1] 4 5=true∧Gq (k4 X n) [0,0,1,1,1,1,1,1,1,1,1,0,0,1,1,1,1,1] 4 6=true∧Gq (k4 X n) [0,0,1,1,1,1,1,1,1,1,1,0,0,1,1,1,1,1] 5 6=true∧Gq (k4 X n) [0,1,0,1,1,1,1,1,0,0,1,1,1,1,1] 4 5=true∧Gq (k4 X n) [0,1,0,1,1,1,1,1,0,0,1,1,1,1,1] 4 6=true∧Gq (k4 X n) [0,1,0,1,1,1,1,1,0,0,1,1,1,1,1] 5 6=true:=⟨by kernel_rfl,by kernel_rfl,by kernel_rfl,by kernel_rfl,by kernel_rfl,by kernel_rfl,by kernel_rfl,by kernel_rfl,by kernel_rfl⟩
attribute [go_sem] Ud Ue Uf
noncomputable def Ep (X:kS) (n:Nat):{B:kN→Option T6 // ∀ (o0:kN),run (k4 X n) [.at []] (s8 (lT 0 kZ) pS ((o0,()),()) () 80)=B o0}:=by
 apply jN
 intro o0
 simp (config:={maxSteps:=100000000,implicitDefEqProofs:=false}) only[go_sem,jE,jF,jA,jB,jG,jH,jJ,jK,jL,jD,jI,jM,Tryz.f34,jC,mixed]
 exact rfl
end Go.Abs
namespace Go.Abs
open Go.Proofs
set_option maxRecDepth 100000
set_option maxHeartbeats 4000000
noncomputable def K1:DO:=⟨[(5,9,true)],[],(zK::zK::zA::zA::zK::zK::zK::ow (ow (ow (zA::zA::[])))),[oT kN.cel,oK,oA kT.row],none,none⟩
@[reducible] noncomputable def Fx (X:kS) (n:Nat):lF T6:=qv Tryz.prog Tryz.f75 n (p9 Tryz.prog [.cell 4 29] [] [0] 1 wC (lM (lK Syntax.cel) kZ)) (cl:=oS [(59,entG [0] (wP (Ay kN.cel) vc) (Od 0 L3) (wP (Ay kN.cel) vc) (NI nh Ke) (fun (b:Tb) a=>(l8 n) b.1)),(79,entV (rS (yR (zZ kN.cel) nh pQ (n4 n)))),(120,entG [0] (wP (Ay kN.cel) vc) (Od 0 L3) (wP (Ay kN.cel) vc) (NI (lK Syntax.cel) Ke) (fun (b:Tb) a=>(Gs n) b.1)),(121,Sm (lK Syntax.cel) (nj kT.row) (lK Syntax.cel) (lK Syntax.cel) (NV n))]) (wU:=vR [([0,1,0,1,1,1],K1)]) (pJ:=qa [] [0] 1 wD wE) (cp:=z6 [(34,rN X.mw),(60,nK (n9 n)),(72,ng (mJ n)),(78,IP X.oZ),(119,qy (rW n))]) (Ab:=mU [34,60,72,78,119])
attribute [go_sem] K1
noncomputable abbrev Er (v0:Int) (v1:Int) (o0:kN) (r2:List kT) (c2:Nat):AState:=⟨(.ptr 0 0:: .int .i64 v0::qA::qA:: .ptr 1 0:: .acc 2 c2:: .int .i64 v1::oJ (oJ (oJ (qA::qA::[])))),[.cells (kN.cells o0),.cells [.int .i64 0,.str (sb []),.int .i64 0,.l5 true 0 [],.l5 true 0 [],.l5 true 0 [],.int .i64 0,.int .i64 0],.acc true 9 (mp kT.cells r2)],1,[]⟩
abbrev Av:=Int→Int→kN→Ti→Option T6
abbrev Es (X:kS) (n:Nat) (K:List Kt) (Z:Av):Prop:= ∀ (v0:Int) (v1:Int) (o0:kN) (r2:List kT) (c2:Nat),c2=r2.length→run (Fx X n) K (Er v0 v1 o0 r2 c2)=Z v0 v1 o0 r2
attribute [go_sem] Er
noncomputable def Et (X:kS) (n:Nat):{B:Av→Av // ∀m X0,Es X n (.lq m [0,1,0,1,1,1]::[.blk 0,.cut [1,1,1,1],.at [1,1,1,1]]) X0→ ∀ (v0:Int) (v1:Int) (o0:kN) (r2:List kT),run (Fx X n) (.at [0,0,1,0,1,1,1]:: .lp m [0,1,0,1,1,1]::[.blk 0,.cut [1,1,1,1],.at [1,1,1,1]]) (Er v0 v1 o0 r2 (r2.length))=B X0 v0 v1 o0 r2}:=by
 apply jN
 intro m X0 ih v0 v1 o0 r2
 simp (config:={maxSteps:=100000000,implicitDefEqProofs:=false}) only[go_sem,jE,jF,jA,jB,jG,jH,jJ,jK,jL,jD,jI,jM,Tryz.f75,jC,mixed,ih]
 exact rfl
noncomputable def Eu (X:kS) (n:Nat):Nat→Av:=FH ((Et X n).1)
theorem parser_parser_fun_l1_s (X:kS) {n:Nat} {m:Nat}:Eu X n (m+1)=(Et X n).1 (Eu X n m):=rfl
theorem P3 (X:kS) (n:Nat) (m:Nat):Es X n (.lq m [0,1,0,1,1,1]::[.blk 0,.cut [1,1,1,1],.at [1,1,1,1]]) (Eu X n m):=
 mB (G:=fun m Z=>Es X n (.lq m [0,1,0,1,1,1]::[.blk 0,.cut [1,1,1,1],.at [1,1,1,1]]) Z) (fun _ _ _ _ _ _=>k7) (fun m _ ih=>by
  intro v0 v1 o0 r2 c2 ec2
  subst ec2
  rw[k8]
  exact (Et X n).2 _ _ ih v0 v1 o0 r2) m
noncomputable def Fy (X:kS) (n:Nat):{B:Int→kN→Option T6 // ∀ (a0:Int) (o0:kN),run (Fx X n) [.at []] (s8 (lT 0 (lM (mK .i64) kZ)) wB ((o0,()),()) (a0,()) 57)=B a0 o0}:=by
 apply jN
 intro a0 o0
 simp (config:={maxSteps:=100000000,implicitDefEqProofs:=false}) only[go_sem,jE,jF,jA,jB,jG,jH,jJ,jK,jL,jD,jI,jM,Tryz.f75,jC,mixed,P3 X n]
 exact rfl
end Go.Abs
namespace Go.Abs
open Go.Proofs
set_option maxRecDepth 100000
set_option maxHeartbeats 4000000
noncomputable def He:DO:=⟨[],[],(zK::zK::zK::nr (zK::ow (ow (nr (nr (nr (zA::zA::[]))))))),[oT kN.cel,oA nq],none,none⟩
noncomputable def F3:DO:=⟨[],[],(zK::zK::zK::nr (zL nq::ow (ow (nr (nr (nr (zA::zA::[]))))))),[oT kN.cel],(some 7),none⟩
@[reducible] noncomputable def u0 (X:kS) (n:Nat):lF Tw:=qv Tryz.prog Tryz.f78 n (p9 Tryz.prog [.tmp 6] [] [0] 1 q5 (lM (nj kT.row) kZ)) (cl:=oS [(59,entG [0] (wP (Ay kN.cel) vc) (Od 0 L3) (wP (Ay kN.cel) vc) (NI nh Ke) (fun (b:Tb) a=>(l8 n) b.1)),(123,entV (rS (qR (zZ kN.cel) pQ (vY n)))),(124,yR (nj nq) (lK Syntax.cel) (nj kT.row) (QT n))]) (wU:=vR [([0,0,1,1,1],F3),([0,0,1,1,1],He)]) (pJ:=qa [] [0] 1 q6 q7) (cp:=z6 [(34,rN X.mw),(60,nK (n9 n)),(72,ng (mJ n)),(119,qy (rW n))]) (Ab:=mU [34,60,72,119])
attribute [go_sem] He F3
noncomputable abbrev BS (v0:Str) (v1:Str) (o0:kN) (r1:List Str) (c1:Nat):AState:=⟨(.ptr 0 0:: .str (sb v0):: .str (sb v1)::nQ (.acc 1 c1::oJ (oJ (nQ (nQ (nQ (qA::qA::[]))))))),[.cells (kN.cells o0),.acc true 1 (mp mo r1)],1,[]⟩
abbrev xV:=Str→Str→kN→(List Str)→Option Tw
abbrev BT (X:kS) (n:Nat) (K:List Kt) (Z:xV):Prop:= ∀ (v0:Str) (v1:Str) (o0:kN) (r1:List Str) (c1:Nat),c1=r1.length→run (u0 X n) K (BS v0 v1 o0 r1 c1)=Z v0 v1 o0 r1
attribute [go_sem] BS
noncomputable def BU (X:kS) (n:Nat):{B:xV→xV // ∀m X0,BT X n (.lq m [0,0,1,1,1]::[.blk 0,.cut [1,1,1,1],.at [1,1,1,1]]) X0→ ∀ (v0:Str) (v1:Str) (o0:kN) (r1:List Str),run (u0 X n) (.at [0,0,0,1,1,1]:: .lp m [0,0,1,1,1]::[.blk 0,.cut [1,1,1,1],.at [1,1,1,1]]) (BS v0 v1 o0 r1 (r1.length))=B X0 v0 v1 o0 r1}:=by
 apply jN
 intro m X0 ih v0 v1 o0 r1
 simp (config:={maxSteps:=100000000,implicitDefEqProofs:=false}) only[go_sem,jE,jF,jA,jB,jG,jH,jJ,jK,jL,jD,jI,jM,Tryz.f78,jC,mixed,ih]
 exact rfl
noncomputable def BV (X:kS) (n:Nat):Nat→xV:=FH ((BU X n).1)
theorem Z6 (X:kS) {n:Nat} {m:Nat}:BV X n (m+1)=(BU X n).1 (BV X n m):=rfl
theorem Ew (X:kS) (n:Nat) (m:Nat):BT X n (.lq m [0,0,1,1,1]::[.blk 0,.cut [1,1,1,1],.at [1,1,1,1]]) (BV X n m):=
 mB (G:=fun m Z=>BT X n (.lq m [0,0,1,1,1]::[.blk 0,.cut [1,1,1,1],.at [1,1,1,1]]) Z) (fun _ _ _ _ _ _=>k7) (fun m _ ih=>by
  intro v0 v1 o0 r1 c1 ec1
  subst ec1
  rw[k8]
  exact (BU X n).2 _ _ ih v0 v1 o0 r1) m
noncomputable def F4 (X:kS) (n:Nat):{B:Nat→Str→Str→(List Str)→kN→Option Tw // ∀ (m:Nat) (v0:Str) (v1:Str) (v2:List Str) (o0:kN),run (u0 X n) [.at [0,0,0,1,1,1],.lp m [0,0,1,1,1],.blk 0,.cut [1,1,1,1],.at [1,1,1,1]] ⟨[.ptr 0 0,.str (sb v0),.str (sb v1),qA,qA,qA,qA,.l5 true 1 (mp mo v2),qA,qA,qA,qA,qA,qA,qA,qA,qA,qA,qA,qA,qA,qA,qA,qA,qA,qA,qA,qA,qA,qA,qA,qA,qA,qA,qA,qA,qA,qA,qA,qA,qA,qA,qA,qA,qA,qA,qA,qA,qA,qA,qA,qA,qA,qA],[.cells (kN.cells o0)],1,[]⟩=B m v0 v1 v2 o0}:=by
 apply jN
 intro m v0 v1 v2 o0
 simp (config:={maxSteps:=100000000,implicitDefEqProofs:=false}) only[go_sem,jE,jF,jA,jB,jG,jH,jJ,jK,jL,jD,jI,jM,Tryz.f78,jC,mixed,Ew X n]
 exact rfl
noncomputable def P4 (X:kS) (n:Nat):Nat→Str→Str→(List Str)→kN→Option Tw
 |0,_,_,_,_=>none
 |m+1,v0,v1,v2,o0=>(F4 X n).1 m v0 v1 v2 o0
theorem M5 (X:kS) (n:Nat): ∀ (m:Nat),(∀ (v0:Str) (v1:Str) (v2:List Str) (o0:kN),run (u0 X n) [.lq m [0,0,1,1,1],.blk 0,.cut [1,1,1,1],.at [1,1,1,1]] ⟨[.ptr 0 0,.str (sb v0),.str (sb v1),qA,qA,qA,qA,.l5 true 1 (mp mo v2),qA,qA,qA,qA,qA,qA,qA,qA,qA,qA,qA,qA,qA,qA,qA,qA,qA,qA,qA,qA,qA,qA,qA,qA,qA,qA,qA,qA,qA,qA,qA,qA,qA,qA,qA,qA,qA,qA,qA,qA,qA,qA,qA,qA,qA,qA],[.cells (kN.cells o0)],1,[]⟩=P4 X n m v0 v1 v2 o0)
 |0=>by intros;exact k7
 |m+1=>by
  intro v0 v1 v2 o0
  rw[k8]
  exact (F4 X n).2 m v0 v1 v2 o0
noncomputable def CM (X:kS) (n:Nat):{B:Str→Str→kN→Option Tw // ∀ (a0:Str) (a1:Str) (o0:kN),run (u0 X n) [.at []] (s8 (lT 0 (lM nh (lM nh kZ))) q4 ((o0,()),()) (a0,a1,()) 54)=B a0 a1 o0}:=by
 apply jN
 intro a0 a1 o0
 simp (config:={maxSteps:=100000000,implicitDefEqProofs:=false}) only[go_sem,jE,jF,jA,jB,jG,jH,jJ,jK,jL,jD,jI,jM,Tryz.f78,jC,mixed,Ew X n,M5 X n]
 exact rfl
end Go.Abs
namespace Go.Abs
open Go.Proofs
set_option maxRecDepth 100000
set_option maxHeartbeats 4000000
@[reducible] noncomputable def oz (X:kS) (n:Nat):lF T6:=qv Tryz.prog Tryz.f76 n (p9 Tryz.prog [.cell 4 29] [] [0] 1 wG (lM (lK Syntax.cel) kZ)) (cl:=oS [(59,entG [0] (wP (Ay kN.cel) vc) (Od 0 L3) (wP (Ay kN.cel) vc) (NI nh Ke) (fun (b:Tb) a=>(l8 n) b.1)),(120,entG [0] (wP (Ay kN.cel) vc) (Od 0 L3) (wP (Ay kN.cel) vc) (NI (lK Syntax.cel) Ke) (fun (b:Tb) a=>(Gs n) b.1)),(122,entG [0] (wP (Ay kN.cel) vc) (Od 0 (XB nh L3)) (wP (Ay kN.cel) vc) (NI pQ Ke) (fun (b:Tb) a=>(mz n) b.1 a.1))]) (pJ:=qa [] [0] 1 wH wI) (cp:=z6 [(34,rN X.mw),(60,nK (n9 n)),(119,qy (rW n))]) (Ab:=mU [34,60,119]) (AZ:=mU []) (AY:=mU [])
theorem UY (X:kS) (n:Nat):nP (oz X n) [0,1,1,1,1,1,1,1,1,1]=true:=by kernel_rfl
theorem UZ (X:kS) (n:Nat):lS (oz X n) [0,1,1,1,1,1,1,1,1,1] 0 7=true∧lS (oz X n) [0,1,1,1,1,1,1,1,1,1] 1 7=true∧lS (oz X n) [0,1,1,1,1,1,1,1,1,1] 2 7=true∧lS (oz X n) [0,1,1,1,1,1,1,1,1,1] 0 9=true∧lS (oz X n) [0,1,1,1,1,1,1,1,1,1] 1 9=true∧lS (oz X n) [0,1,1,1,1,1,1,1,1,1] 2 9=true∧lS (oz X n) [0,1,1,1,1,1,1,1,1,1] 5 9=true∧lS (oz X n) [0,1,1,1,1,1,1,1,1,1] 7 9=true:=⟨by kernel_rfl,by kernel_rfl,by kernel_rfl,by kernel_rfl,by kernel_rfl,by kernel_rfl,by kernel_rfl,by kernel_rfl⟩
attribute [go_sem] UY UZ
noncomputable def Fz (X:kS) (n:Nat):{B:Int→kN→Option T6 // ∀ (a0:Int) (o0:kN),run (oz X n) [.at []] (s8 (lT 0 (lM (mK .i64) kZ)) wF ((o0,()),()) (a0,()) 48)=B a0 o0}:=by
 apply jN
 intro a0 o0
 simp (config:={maxSteps:=100000000,implicitDefEqProofs:=false}) only[go_sem,jE,jF,jA,jB,jG,jH,jJ,jK,jL,jD,jI,jM,Tryz.f76,jC,mixed]
 exact rfl
end Go.Abs
namespace Go.Abs
open Go.Proofs
set_option maxRecDepth 100000
set_option maxHeartbeats 4000000
@[reducible] noncomputable def sL (X:kS) (n:Nat):lF T6:=qv Tryz.prog Tryz.f80 n (p9 Tryz.prog [.cell 4 29] [] [0] 1 uL (lM (lK Syntax.cel) kZ)) (cl:=oS [(122,entG [0] (wP (Ay kN.cel) vc) (Od 0 (XB nh L3)) (wP (Ay kN.cel) vc) (NI pQ Ke) (fun (b:Tb) a=>(mz n) b.1 a.1)),(124,yR (nj nq) (lK Syntax.cel) (nj kT.row) (QT n)),(126,entG [0] (wP (Ay kN.cel) vc) (Od 0 (XB (mK .i64) L3)) (wP (Ay kN.cel) vc) (NI (nj nq) Ke) (fun (b:Tb) a=>(Jc n) b.1 a.1))]) (cd:=Pd [(121,rS (Sm (lK Syntax.cel) (nj kT.row) (lK Syntax.cel) (lK Syntax.cel) (NV n)))]) (pJ:=qa [] [0] 1 uM uN) (co:=Na [(34,GK [.arg 0 []] pS (lT 0 kZ) oh (lM (lK Syntax.cel) kZ) om oo (fun (b:T0) (a:Unit)=>X.mw b.1.1))]) (cp:=z6 [(125,M4 X.tQ)]) (Ab:=mU [125]) (AZ:=mU [34]) (AY:=mU [])
theorem RP (X:kS) (n:Nat):nP (sL X n) [0,1,1,1,1,1,1]=true:=by kernel_rfl
theorem RQ (X:kS) (n:Nat):lS (sL X n) [0,1,1,1,1,1,1] 1 7=true∧lS (sL X n) [0,1,1,1,1,1,1] 5 7=true:=⟨by kernel_rfl,by kernel_rfl⟩
theorem RR (X:kS) (n:Nat):Gq (sL X n) [0,1,1,1,1,1,1] 5 6=true∧Gq (sL X n) [0,1,1,1,1,1,1] 5 7=true:=⟨by kernel_rfl,by kernel_rfl⟩
attribute [go_sem] RP RQ RR
noncomputable def Dp (X:kS) (n:Nat):{B:Int→kN→Option T6 // ∀ (a0:Int) (o0:kN),run (sL X n) [.at []] (s8 (lT 0 (lM (mK .i64) kZ)) uK ((o0,()),()) (a0,()) 55)=B a0 o0}:=by
 apply jN
 intro a0 o0
 simp (config:={maxSteps:=100000000,implicitDefEqProofs:=false}) only[go_sem,jE,jF,jA,jB,jG,jH,jJ,jK,jL,jD,jI,jM,Tryz.f80,jC,mixed]
 exact rfl
end Go.Abs
namespace Go.Abs
open Go.Proofs
set_option maxRecDepth 100000
set_option maxHeartbeats 4000000
noncomputable def LY:DO:=⟨[(3,8,true)],[],(zK::zA::zK::zK::DR (nr (nr (nr [])))),[oT kN.cel,oK,oA Syntax.row],none,none⟩
@[reducible] noncomputable def Gw (X:kS) (n:Nat):lF T6:=qv Tryz.prog Tryz.f125 n (p9 Tryz.prog [.cell 2 29] [] [0] 1 yq (lM (lK Syntax.cel) kZ)) (cl:=oS [(161,entV (rS (qR (zZ kN.cel) pQ (CF n)))),(162,entV (rS (qR (zZ kN.cel) pQ (Ee n)))),(164,yR (nj Notation.row) (nj Syntax.row) (ty3 (lK Syntax.cel) (mK .i64) (mK .i64)) (Uc n))]) (wU:=vR [([0,0,1,1],LY)]) (pJ:=qa [] [0] 1 yt yu) (cp:=z6 [(57,qp (n5 n)),(72,ng (mJ n)),(103,rV (tE n)),(163,KY X.rO)]) (Ab:=mU [57,72,103,163])
attribute [go_sem] LY
noncomputable abbrev FA (o0:kN) (r2:List Syntax) (c2:Nat):AState:=⟨(.ptr 0 0::qA:: .ptr 1 0:: .acc 2 c2::DQ (nQ (nQ (nQ [])))),[.cells (kN.cells o0),.cells [.int .i64 0,.str (sb []),.int .i64 0,.l5 true 0 [],.l5 true 0 [],.l5 true 0 [],.int .i64 0,.int .i64 0],.acc true 8 (mp Syntax.cells r2)],1,[]⟩
abbrev Bh:=kN→(List Syntax)→Option T6
abbrev FB (X:kS) (n:Nat) (K:List Kt) (Z:Bh):Prop:= ∀ (o0:kN) (r2:List Syntax) (c2:Nat),c2=r2.length→run (Gw X n) K (FA o0 r2 c2)=Z o0 r2
attribute [go_sem] FA
noncomputable def FC (X:kS) (n:Nat):{B:Bh→Bh // ∀m X0,FB X n (.lq m [0,0,1,1]::[.blk 0,.cut [1,1,1],.at [1,1,1]]) X0→ ∀ (o0:kN) (r2:List Syntax),run (Gw X n) (.at [0,0,0,1,1]:: .lp m [0,0,1,1]::[.blk 0,.cut [1,1,1],.at [1,1,1]]) (FA o0 r2 (r2.length))=B X0 o0 r2}:=by
 apply jN
 intro m X0 ih o0 r2
 simp (config:={maxSteps:=100000000,implicitDefEqProofs:=false}) only[go_sem,jE,jF,jA,jB,jG,jH,jJ,jK,jL,jD,jI,jM,Tryz.f125,jC,mixed,ih]
 exact rfl
noncomputable def FD (X:kS) (n:Nat):Nat→Bh:=FH ((FC X n).1)
theorem parser_parser_op_l1_s (X:kS) {n:Nat} {m:Nat}:FD X n (m+1)=(FC X n).1 (FD X n m):=rfl
theorem Q6 (X:kS) (n:Nat) (m:Nat):FB X n (.lq m [0,0,1,1]::[.blk 0,.cut [1,1,1],.at [1,1,1]]) (FD X n m):=
 mB (G:=fun m Z=>FB X n (.lq m [0,0,1,1]::[.blk 0,.cut [1,1,1],.at [1,1,1]]) Z) (fun _ _ _ _=>k7) (fun m _ ih=>by
  intro o0 r2 c2 ec2
  subst ec2
  rw[k8]
  exact (FC X n).2 _ _ ih o0 r2) m
noncomputable def Gx (X:kS) (n:Nat):{B:kN→Option T6 // ∀ (o0:kN),run (Gw X n) [.at []] (s8 (lT 0 kZ) yp ((o0,()),()) () 80)=B o0}:=by
 apply jN
 intro o0
 simp (config:={maxSteps:=100000000,implicitDefEqProofs:=false}) only[go_sem,jE,jF,jA,jB,jG,jH,jJ,jK,jL,jD,jI,jM,Tryz.f125,jC,mixed,Q6 X n]
 exact rfl
end Go.Abs
namespace Go.Abs
open Go.Proofs
set_option maxRecDepth 100000
set_option maxHeartbeats 4000000
@[reducible] noncomputable def Ug (X:kS) (n:Nat):lF T6:=qv Tryz.prog Tryz.f163 n (p9 Tryz.prog [.cell 2 29] [] [0] 1 vF (lM (lK Syntax.cel) kZ)) (cl:=oS [(58,entV (rS (qR (zZ kN.cel) (mK .i64) (tu n)))),(59,entG [0] (wP (Ay kN.cel) vc) (Od 0 L3) (wP (Ay kN.cel) vc) (NI nh Ke) (fun (b:Tb) a=>(l8 n) b.1)),(157,entV (rS (qR (zZ kN.cel) (mK .i64) (sC n)))),(161,entV (rS (qR (zZ kN.cel) pQ (CF n))))]) (pJ:=qa [] [0] 1 vG vH) (cp:=z6 [(196,LX X.sF)]) (Ab:=mU [196])
noncomputable def Ex (X:kS) (n:Nat):{B:kN→Option T6 // ∀ (o0:kN),run (Ug X n) [.at []] (s8 (lT 0 kZ) vE ((o0,()),()) () 25)=B o0}:=by
 apply jN
 intro o0
 simp (config:={maxSteps:=100000000,implicitDefEqProofs:=false}) only[go_sem,jE,jF,jA,jB,jG,jH,jJ,jK,jL,jD,jI,jM,Tryz.f163,jC,mixed]
 exact rfl
end Go.Abs
namespace Go.Abs
open Go.Proofs
set_option maxRecDepth 100000
set_option maxHeartbeats 4000000
noncomputable def K2:DO:=⟨[],[],(zK::zA::zK::zK::zK::ow (nr (zA::zA::zA::[]))),[oT kN.cel,oK,oT Syntax.cel],none,none⟩
@[reducible] noncomputable def LZ (X:kS) (n:Nat):lF T6:=qv Tryz.prog Tryz.f196 n (p9 Tryz.prog [.cell 2 29] [] [0] 1 wK (lM (lK Syntax.cel) kZ)) (cl:=oS [(162,entV (rS (qR (zZ kN.cel) pQ (Ee n))))]) (wU:=vR [([0,1,0,1,1],K2)]) (pJ:=qa [] [0] 1 wL wM) (cp:=z6 [(72,ng (mJ n)),(217,KZ X.rP)]) (Ab:=mU [72,217])
attribute [go_sem] K2
noncomputable abbrev K3 (v0:Int) (o0:kN) (o2:Syntax):AState:=⟨(.ptr 0 0::qA:: .ptr 1 0:: .ptr 2 0:: .int .i64 v0::oJ (nQ (qA::qA::qA::[]))),[.cells (kN.cells o0),.cells [.int .i64 0,.str (sb []),.int .i64 0,.l5 true 0 [],.l5 true 0 [],.l5 true 0 [],.int .i64 0,.int .i64 0],.cells (Syntax.cells o2)],1,[]⟩
abbrev Aw:=Int→kN→Syntax→Option T6
abbrev Ax (X:kS) (n:Nat) (K:List Kt) (Z:Aw):Prop:= ∀ (v0:Int) (o0:kN) (o2:Syntax),run (LZ X n) K (K3 v0 o0 o2)=Z v0 o0 o2
attribute [go_sem] K3
noncomputable def Ey (X:kS) (n:Nat):{B:Aw→Aw // ∀m X0,Ax X n (.lq m [0,1,0,1,1]::[.blk 0,.cut [1,1,1],.at [1,1,1]]) X0→Ax X n (.at [0,0,1,0,1,1]:: .lp m [0,1,0,1,1]::[.blk 0,.cut [1,1,1],.at [1,1,1]]) (B X0)}:=by
 apply jN
 intro m X0 ih v0 o0 o2
 simp (config:={maxSteps:=100000000,implicitDefEqProofs:=false}) only[go_sem,jE,jF,jA,jB,jG,jH,jJ,jK,jL,jD,jI,jM,Tryz.f196,jC,mixed,ih]
 exact rfl
noncomputable def Ez (X:kS) (n:Nat):Nat→Aw:=FH ((Ey X n).1)
theorem parser_parser_app_l1_s (X:kS) {n:Nat} {m:Nat}:Ez X n (m+1)=(Ey X n).1 (Ez X n m):=rfl
theorem P5 (X:kS) (n:Nat) (m:Nat):Ax X n (.lq m [0,1,0,1,1]::[.blk 0,.cut [1,1,1],.at [1,1,1]]) (Ez X n m):=
 mB (G:=fun m Z=>Ax X n (.lq m [0,1,0,1,1]::[.blk 0,.cut [1,1,1],.at [1,1,1]]) Z) (fun _ _ _=>k7) (fun m _ ih v0 o0 o2=>k8.trans ((Ey X n).2 _ _ ih v0 o0 o2)) m
noncomputable def FE (X:kS) (n:Nat):{B:kN→Option T6 // ∀ (o0:kN),run (LZ X n) [.at []] (s8 (lT 0 kZ) wJ ((o0,()),()) () 28)=B o0}:=by
 apply jN
 intro o0
 simp (config:={maxSteps:=100000000,implicitDefEqProofs:=false}) only[go_sem,jE,jF,jA,jB,jG,jH,jJ,jK,jL,jD,jI,jM,Tryz.f196,jC,mixed,P5 X n]
 exact rfl
end Go.Abs
namespace Go.Abs
open Go.Proofs
set_option maxRecDepth 100000
set_option maxHeartbeats 4000000
noncomputable def Jw:DO:=⟨[],[],(zK::zA::zK::zK::zK::ow (ow (nr []))),[oT kN.cel,oK,oT Syntax.cel],none,none⟩
@[reducible] noncomputable def tR (X:kS) (n:Nat):lF T6:=qv Tryz.prog Tryz.f217 n (p9 Tryz.prog [.cell 2 29] [] [0] 1 vJ (lM (lK Syntax.cel) kZ)) (cl:=oS [(59,entG [0] (wP (Ay kN.cel) vc) (Od 0 L3) (wP (Ay kN.cel) vc) (NI nh Ke) (fun (b:Tb) a=>(l8 n) b.1)),(79,entV (rS (yR (zZ kN.cel) nh pQ (n4 n))))]) (wU:=vR [([0,1,0,1,1],Jw)]) (pJ:=qa [] [0] 1 vK vL) (co:=Na [(157,entVC (rS (qR (zZ kN.cel) (mK .i64) (sC n))))]) (cp:=z6 [(72,ng (mJ n)),(241,Ju X.qH)]) (Ab:=mU [72,241]) (AZ:=mU [157]) (AY:=mU [])
theorem Uh (X:kS) (n:Nat):nP (tR X n) [1,1,1,0,0,1,0,0,1,0,1,1]=true:=by kernel_rfl
theorem Ui (X:kS) (n:Nat):lS (tR X n) [1,1,1,0,0,1,0,0,1,0,1,1] 1 10=true∧lS (tR X n) [1,1,1,0,0,1,0,0,1,0,1,1] 4 10=true∧lS (tR X n) [1,1,1,0,0,1,0,0,1,0,1,1] 8 10=true:=⟨by kernel_rfl,by kernel_rfl,by kernel_rfl⟩
attribute [go_sem] Uh Ui Jw
noncomputable abbrev Jx (v0:Int) (o0:kN) (o2:Syntax):AState:=⟨(.ptr 0 0::qA:: .ptr 1 0:: .ptr 2 0:: .int .i64 v0::oJ (oJ (nQ []))),[.cells (kN.cells o0),.cells [.int .i64 0,.str (sb []),.int .i64 0,.l5 true 0 [],.l5 true 0 [],.l5 true 0 [],.int .i64 0,.int .i64 0],.cells (Syntax.cells o2)],1,[]⟩
abbrev zW:=Int→kN→Syntax→Option T6
abbrev zX (X:kS) (n:Nat) (K:List Kt) (Z:zW):Prop:= ∀ (v0:Int) (o0:kN) (o2:Syntax),run (tR X n) K (Jx v0 o0 o2)=Z v0 o0 o2
attribute [go_sem] Jx
noncomputable def Dq (X:kS) (n:Nat):{B:zW→zW // ∀m X0,zX X n (.lq m [0,1,0,1,1]::[.blk 0,.cut [1,1,1],.at [1,1,1]]) X0→zX X n (.at [0,0,1,0,1,1]:: .lp m [0,1,0,1,1]::[.blk 0,.cut [1,1,1],.at [1,1,1]]) (B X0)}:=by
 apply jN
 intro m X0 ih v0 o0 o2
 simp (config:={maxSteps:=100000000,implicitDefEqProofs:=false}) only[go_sem,jE,jF,jA,jB,jG,jH,jJ,jK,jL,jD,jI,jM,Tryz.f217,jC,mixed,ih]
 exact rfl
noncomputable def Dr (X:kS) (n:Nat):Nat→zW:=FH ((Dq X n).1)
theorem parser_parser_atom_l1_s (X:kS) {n:Nat} {m:Nat}:Dr X n (m+1)=(Dq X n).1 (Dr X n m):=rfl
theorem O0 (X:kS) (n:Nat) (m:Nat):zX X n (.lq m [0,1,0,1,1]::[.blk 0,.cut [1,1,1],.at [1,1,1]]) (Dr X n m):=
 mB (G:=fun m Z=>zX X n (.lq m [0,1,0,1,1]::[.blk 0,.cut [1,1,1],.at [1,1,1]]) Z) (fun _ _ _=>k7) (fun m _ ih v0 o0 o2=>k8.trans ((Dq X n).2 _ _ ih v0 o0 o2)) m
noncomputable def EA (X:kS) (n:Nat):{B:kN→Option T6 // ∀ (o0:kN),run (tR X n) [.at []] (s8 (lT 0 kZ) vI ((o0,()),()) () 41)=B o0}:=by
 apply jN
 intro o0
 simp (config:={maxSteps:=100000000,implicitDefEqProofs:=false}) only[go_sem,jE,jF,jA,jB,jG,jH,jJ,jK,jL,jD,jI,jM,Tryz.f217,jC,mixed,O0 X n]
 exact rfl
end Go.Abs
namespace Go.Abs
open Go.Proofs
set_option maxRecDepth 100000
set_option maxHeartbeats 4000000
@[reducible] noncomputable def RS (X:kS) (n:Nat):lF T6:=qv Tryz.prog Tryz.f241 n (p9 Tryz.prog [.cell 2 29] [] [0] 1 uP (lM (lK Syntax.cel) kZ)) (cl:=oS [(58,entV (rS (qR (zZ kN.cel) (mK .i64) (tu n)))),(122,entG [0] (wP (Ay kN.cel) vc) (Od 0 (XB nh L3)) (wP (Ay kN.cel) vc) (NI pQ Ke) (fun (b:Tb) a=>(mz n) b.1 a.1)),(157,entV (rS (qR (zZ kN.cel) (mK .i64) (sC n))))]) (pJ:=qa [] [0] 1 uQ uR) (cp:=z6 [(258,IQ X.qk),(259,K0 X.rQ)]) (Ab:=mU [258,259])
noncomputable def Ds (X:kS) (n:Nat):{B:kN→Option T6 // ∀ (o0:kN),run (RS X n) [.at []] (s8 (lT 0 kZ) uO ((o0,()),()) () 24)=B o0}:=by
 apply jN
 intro o0
 simp (config:={maxSteps:=100000000,implicitDefEqProofs:=false}) only[go_sem,jE,jF,jA,jB,jG,jH,jJ,jK,jL,jD,jI,jM,Tryz.f241,jC,mixed]
 exact rfl
end Go.Abs
namespace Go.Abs
open Go.Proofs
set_option maxRecDepth 100000
set_option maxHeartbeats 4000000
noncomputable def Hf:DO:=⟨[],[],(zK::zA::zA::zK::zK::zA::zK::zK::zK::DR (ow (nr (nr (zA::zA::zA::[]))))),[oT kN.cel,oT Syntax.cel,oK,oD,oA Syntax.row,oT Syntax.cel],none,none⟩
noncomputable def Hg:DO:=⟨[],[],(zK::zA::zA::zK::zK::zA::zK::DR (ow (nr (nr (nr (zA::[])))))),[oT kN.cel,oT Syntax.cel,oK,oD,oA Syntax.row],none,none⟩
@[reducible] noncomputable def lf (X:kS) (n:Nat):lF T6:=qv Tryz.prog Tryz.f258 n (p9 Tryz.prog [.cell 4 29] [] [0] 1 tM (lM (lK Syntax.cel) kZ)) (cl:=oS [(122,entG [0] (wP (Ay kN.cel) vc) (Od 0 (XB nh L3)) (wP (Ay kN.cel) vc) (NI pQ Ke) (fun (b:Tb) a=>(mz n) b.1 a.1)),(157,entV (rS (qR (zZ kN.cel) (mK .i64) (sC n))))]) (wU:=vR [([0,1,0,1,1,1,1,1,1,1,1],Hf),([0,0,1,1,1,1,1],Hg)]) (pJ:=qa [] [0] 1 tN tO) (co:=Na [(34,GK [.arg 0 []] pS (lT 0 kZ) oh (lM (lK Syntax.cel) kZ) om oo (fun (b:T0) (a:Unit)=>X.mw b.1.1)),(57,GK [.arg 0 []] pZ (lT 0 (lM pQ kZ)) p4 kZ p5 p6 (fun (b:T0) (a:(Bool×Unit))=>(n5 n) a.1 b.1.1)),(79,entVC (rS (yR (zZ kN.cel) nh pQ (n4 n)))),(157,entVC (rS (qR (zZ kN.cel) (mK .i64) (sC n))))]) (cp:=z6 [(34,rN X.mw),(60,nK (n9 n)),(72,ng (mJ n))]) (Ab:=mU [34,60,72]) (AZ:=mU [34,57,79,157]) (AY:=mU [])
theorem Q7 (X:kS) (n:Nat):nP (lf X n) [0,0,1,0,0,1,0,1,1,1,1,1,1,1,1]=true∧nP (lf X n) [0,0,1,1,1,0,0,1,1]=true∧nP (lf X n) [0,1,1,1]=true:=⟨by kernel_rfl,by kernel_rfl,by kernel_rfl⟩
theorem Q8 (X:kS) (n:Nat):lS (lf X n) [0,0,1,0,0,1,0,1,1,1,1,1,1,1,1] 2 16=true∧lS (lf X n) [0,0,1,0,0,1,0,1,1,1,1,1,1,1,1] 3 16=true∧lS (lf X n) [0,0,1,0,0,1,0,1,1,1,1,1,1,1,1] 4 16=true∧lS (lf X n) [0,0,1,0,0,1,0,1,1,1,1,1,1,1,1] 8 16=true∧lS (lf X n) [0,0,1,0,0,1,0,1,1,1,1,1,1,1,1] 10 16=true∧lS (lf X n) [0,0,1,0,0,1,0,1,1,1,1,1,1,1,1] 14 16=true∧lS (lf X n) [0,0,1,1,1,0,0,1,1] 2 5=true∧lS (lf X n) [0,0,1,1,1,0,0,1,1] 0 7=true∧lS (lf X n) [0,0,1,1,1,0,0,1,1] 2 7=true∧lS (lf X n) [0,0,1,1,1,0,0,1,1] 5 7=true∧lS (lf X n) [0,1,1,1] 6 7=true:=⟨by kernel_rfl,by kernel_rfl,by kernel_rfl,by kernel_rfl,by kernel_rfl,by kernel_rfl,by kernel_rfl,by kernel_rfl,by kernel_rfl,by kernel_rfl,by kernel_rfl⟩
theorem Q9 (X:kS) (n:Nat):Gq (lf X n) [0,0,1,1,1,0,0,1,1] 2 3=true∧Gq (lf X n) [0,0,1,1,1,0,0,1,1] 2 4=false∧Gq (lf X n) [0,0,1,1,1,0,0,1,1] 2 5=true∧Gq (lf X n) [0,0,1,1,1,0,0,1,1] 2 6=true∧Gq (lf X n) [0,0,1,1,1,0,0,1,1] 2 7=true:=⟨by kernel_rfl,by kernel_rfl,by kernel_rfl,by kernel_rfl,by kernel_rfl⟩
attribute [go_sem] Q7 Q8 Q9 Hf Hg
noncomputable abbrev BW (v0:Int) (o0:kN) (o1:Syntax) (r4:List Syntax) (o5:Syntax) (c4:Nat):AState:=⟨(.ptr 0 0::qA::qA:: .ptr 1 0:: .ptr 2 0::qA:: .acc 4 c4:: .ptr 5 0:: .int .i64 v0::DQ (oJ (nQ (nQ (qA::qA::qA::[]))))),[.cells (kN.cells o0),.cells (Syntax.cells o1),.cells [.int .i64 0,.str (sb []),.int .i64 0,.l5 true 0 [],.l5 true 0 [],.l5 true 0 [],.int .i64 0,.int .i64 0],.dead,.acc true 8 (mp Syntax.cells r4),.cells (Syntax.cells o5)],1,[]⟩
abbrev tS:List Kt:=[.blk 3,.cut [1,1,1,1,1,1,1,1,1],.at [1,1,1,1,1,1,1,1,1]]
abbrev xW:=Int→kN→Syntax→(List Syntax)→Syntax→Option T6
abbrev BX (X:kS) (n:Nat) (K:List Kt) (Z:xW):Prop:= ∀ (v0:Int) (o0:kN) (o1:Syntax) (r4:List Syntax) (o5:Syntax) (c4:Nat),c4=r4.length→run (lf X n) K (BW v0 o0 o1 r4 o5 c4)=Z v0 o0 o1 r4 o5
noncomputable abbrev BY (o0:kN) (o1:Syntax) (r4:List Syntax) (c4:Nat):AState:=⟨(.ptr 0 0::qA::qA:: .ptr 1 0:: .ptr 2 0::qA:: .acc 4 c4::DQ (oJ (nQ (nQ (nQ (qA::[])))))),[.cells (kN.cells o0),.cells (Syntax.cells o1),.cells [.int .i64 0,.str (sb []),.int .i64 0,.l5 true 0 [],.l5 true 0 [],.l5 true 0 [],.int .i64 0,.int .i64 0],.dead,.acc true 8 (mp Syntax.cells r4)],1,[]⟩
abbrev xX:=kN→Syntax→(List Syntax)→Option T6
abbrev BZ (X:kS) (n:Nat) (K:List Kt) (Z:xX):Prop:= ∀ (o0:kN) (o1:Syntax) (r4:List Syntax) (c4:Nat),c4=r4.length→run (lf X n) K (BY o0 o1 r4 c4)=Z o0 o1 r4
attribute [go_sem] BW tS BY
noncomputable def B0 (X:kS) (n:Nat):{B:xW→xW // ∀m X0,BX X n (.lq m [0,1,0,1,1,1,1,1,1,1,1]::tS) X0→ ∀ (v0:Int) (o0:kN) (o1:Syntax) (r4:List Syntax) (o5:Syntax),run (lf X n) (.at [0,0,1,0,1,1,1,1,1,1,1,1]:: .lp m [0,1,0,1,1,1,1,1,1,1,1]::tS) (BW v0 o0 o1 r4 o5 (r4.length))=B X0 v0 o0 o1 r4 o5}:=by
 apply jN
 intro m X0 ih v0 o0 o1 r4 o5
 simp (config:={maxSteps:=100000000,implicitDefEqProofs:=false}) only[go_sem,jE,jF,jA,jB,jG,jH,jJ,jK,jL,jD,jI,jM,Tryz.f258,jC,mixed,ih]
 exact rfl
noncomputable def B1 (X:kS) (n:Nat):Nat→xW:=FH ((B0 X n).1)
theorem Z7 (X:kS) {n:Nat} {m:Nat}:B1 X n (m+1)=(B0 X n).1 (B1 X n m):=rfl
theorem EB (X:kS) (n:Nat) (m:Nat):BX X n (.lq m [0,1,0,1,1,1,1,1,1,1,1]::tS) (B1 X n m):=
 mB (G:=fun m Z=>BX X n (.lq m [0,1,0,1,1,1,1,1,1,1,1]::tS) Z) (fun _ _ _ _ _ _ _=>k7) (fun m _ ih=>by
  intro v0 o0 o1 r4 o5 c4 ec4
  subst ec4
  rw[k8]
  exact (B0 X n).2 _ _ ih v0 o0 o1 r4 o5) m
noncomputable def B2 (X:kS) (n:Nat):{B:xX→xX // ∀m X0,BZ X n (.lq m [0,0,1,1,1,1,1]::[.blk 1,.cut [1,1,1,1,1,1],.at [1,1,1,1,1,1]]) X0→ ∀ (o0:kN) (o1:Syntax) (r4:List Syntax),run (lf X n) (.at [0,0,0,1,1,1,1,1]:: .lp m [0,0,1,1,1,1,1]::[.blk 1,.cut [1,1,1,1,1,1],.at [1,1,1,1,1,1]]) (BY o0 o1 r4 (r4.length))=B X0 o0 o1 r4}:=by
 apply jN
 intro m X0 ih o0 o1 r4
 simp (config:={maxSteps:=100000000,implicitDefEqProofs:=false}) only[go_sem,jE,jF,jA,jB,jG,jH,jJ,jK,jL,jD,jI,jM,Tryz.f258,jC,mixed,EB X n,ih]
 exact rfl
noncomputable def B3 (X:kS) (n:Nat):Nat→xX:=FH ((B2 X n).1)
theorem Z8 (X:kS) {n:Nat} {m:Nat}:B3 X n (m+1)=(B2 X n).1 (B3 X n m):=rfl
theorem M6 (X:kS) (n:Nat) (m:Nat):BZ X n (.lq m [0,0,1,1,1,1,1]::[.blk 1,.cut [1,1,1,1,1,1],.at [1,1,1,1,1,1]]) (B3 X n m):=
 mB (G:=fun m Z=>BZ X n (.lq m [0,0,1,1,1,1,1]::[.blk 1,.cut [1,1,1,1,1,1],.at [1,1,1,1,1,1]]) Z) (fun _ _ _ _ _=>k7) (fun m _ ih=>by
  intro o0 o1 r4 c4 ec4
  subst ec4
  rw[k8]
  exact (B2 X n).2 _ _ ih o0 o1 r4) m
noncomputable def CN (X:kS) (n:Nat):{B:Syntax→kN→Option T6 // ∀ (a0:Syntax) (o0:kN),run (lf X n) [.at []] (s8 (lT 0 (lM (lK Syntax.cel) kZ)) tL ((o0,()),()) (a0,()) 100)=B a0 o0}:=by
 apply jN
 intro a0 o0
 simp (config:={maxSteps:=100000000,implicitDefEqProofs:=false}) only[go_sem,jE,jF,jA,jB,jG,jH,jJ,jK,jL,jD,jI,jM,Tryz.f258,jC,mixed,EB X n,M6 X n]
 exact rfl
end Go.Abs
