/- A part of the proof: what the functions compute. -/
import Derived.Test.YtdkeelhebopgkaaGreatDoorDataA
import Derived.Test.YtdkeelhebopgkaaGreatDoorWalkB
import Derived.Test.YtdkeelhebopgkaaGreatDoorWalkA
import Derived.Test.YtdkeelhebopgkaaGreatDoorWalkC
set_option linter.all false
open Nat renaming reduceLeDiff → jO,reduceEqDiff → jP,reduceAdd → jS,reduceSub → jT,reduceBEq → jU,reduceMul → jV,reduceLT → jX
open Option renaming getD_some → jQ
open Int renaming reduceToNat → jR,reduceBEq → jW,reduceLE → jY,reduceLT → jZ,reduceEq → j3
open Subtype renaming mk → j4
open Go.Abs.AV renaming any → qA
namespace Go.Abs
open Go.Proofs
set_option maxRecDepth 100000
set_option maxHeartbeats 4000000
@[reducible] noncomputable def Uj (X:kS) (n:Nat):lF Tl:=qv Tryz.prog Tryz.f259 n (p9 Tryz.prog [] [] [0,1] 2 vN kZ) (cl:=oS [(56,entV (rS (qR (zZ kN.cel) (lK Token.cel) (mh n)))),(59,entG [0] (wP (Ay kN.cel) vc) (Od 0 L3) (wP (Ay kN.cel) vc) (NI nh Ke) (fun (b:Tb) a=>(l8 n) b.1)),(74,entV (rS (Sm (zZ kN.cel) (mK .i64) nh pQ (yT n)))),(122,entG [0] (wP (Ay kN.cel) vc) (Od 0 (XB nh L3)) (wP (Ay kN.cel) vc) (NI pQ Ke) (fun (b:Tb) a=>(mz n) b.1 a.1))]) (pJ:=qa [] [0,1] 2 vO vP) (cp:=z6 [(60,nK (n9 n)),(103,rV (tE n)),(138,En (Gv n)),(141,yL (Ap n)),(267,IM (KX n)),(268,LQ (N3 n)),(269,BR X.ot)]) (Ab:=mU [60,103,138,141,267,268,269])
noncomputable def EC (X:kS) (n:Nat):{B:kN→Syntax→Option Tl // ∀ (o0:kN) (o1:Syntax),run (Uj X n) [.at []] (s8 (lT 0 (lT 1 kZ)) vM ((o0,()),(o1,()),()) () 135)=B o0 o1}:=by
 apply j4
 intro o0 o1
 simp (config:={maxSteps:=100000000,implicitDefEqProofs:=false}) only[go_sem,jS,jT,jO,jP,jU,jV,jX,jY,jZ,jR,jW,j3,Tryz.f259,jQ,mixed]
 exact rfl
end Go.Abs
namespace Go.Abs
open Go.Proofs
set_option maxRecDepth 100000
set_option maxHeartbeats 4000000
noncomputable def F5:DO:=⟨[(3,8,true)],[],(zK::zA::zA::zK::ow (nr (zA::zA::[]))),[oT kN.cel,oA Syntax.row],none,none⟩
@[reducible] noncomputable def B4 (X:kS) (n:Nat):lF Tu:=qv Tryz.prog Tryz.f269 n (p9 Tryz.prog [.tmp 2] [] [0] 1 sX (lM (nj Syntax.row) kZ)) (cl:=oS [(79,entV (rS (yR (zZ kN.cel) nh pQ (n4 n)))),(122,entG [0] (wP (Ay kN.cel) vc) (Od 0 (XB nh L3)) (wP (Ay kN.cel) vc) (NI pQ Ke) (fun (b:Tb) a=>(mz n) b.1 a.1))]) (wU:=vR [([0,0,1,1],F5)]) (pJ:=qa [] [0] 1 sY sZ) (cp:=z6 [(72,ng (mJ n)),(275,CZ X.nL)]) (Ab:=mU [72,275])
attribute [go_sem] F5
noncomputable abbrev AR (o0:kN) (r1:List Syntax) (c1:Nat):AState:=⟨(.ptr 0 0::qA::qA:: .acc 1 c1::oJ (nQ (qA::qA::[]))),[.cells (kN.cells o0),.acc true 8 (mp Syntax.cells r1)],1,[]⟩
abbrev we:=kN→(List Syntax)→Option Tu
abbrev AS (X:kS) (n:Nat) (K:List Kt) (Z:we):Prop:= ∀ (o0:kN) (r1:List Syntax) (c1:Nat),c1=r1.length→run (B4 X n) K (AR o0 r1 c1)=Z o0 r1
attribute [go_sem] AR
noncomputable def AT (X:kS) (n:Nat):{B:we→we // ∀m X0,AS X n (.lq m [0,0,1,1]::[.blk 0,.cut [1,1,1],.at [1,1,1]]) X0→ ∀ (o0:kN) (r1:List Syntax),run (B4 X n) (.at [0,0,0,1,1]:: .lp m [0,0,1,1]::[.blk 0,.cut [1,1,1],.at [1,1,1]]) (AR o0 r1 (r1.length))=B X0 o0 r1}:=by
 apply j4
 intro m X0 ih o0 r1
 simp (config:={maxSteps:=100000000,implicitDefEqProofs:=false}) only[go_sem,jS,jT,jO,jP,jU,jV,jX,jY,jZ,jR,jW,j3,Tryz.f269,jQ,mixed,ih]
 exact rfl
noncomputable def AU (X:kS) (n:Nat):Nat→we:=FH ((AT X n).1)
theorem ZM (X:kS) {n:Nat} {m:Nat}:AU X n (m+1)=(AT X n).1 (AU X n m):=rfl
theorem Mb (X:kS) (n:Nat) (m:Nat):AS X n (.lq m [0,0,1,1]::[.blk 0,.cut [1,1,1],.at [1,1,1]]) (AU X n m):=
 mB (G:=fun m Z=>AS X n (.lq m [0,0,1,1]::[.blk 0,.cut [1,1,1],.at [1,1,1]]) Z) (fun _ _ _ _=>k7) (fun m _ ih=>by
  intro o0 r1 c1 ec1
  subst ec1
  rw[k8]
  exact (AT X n).2 _ _ ih o0 r1) m
noncomputable def B5 (X:kS) (n:Nat):{B:kN→Option Tu // ∀ (o0:kN),run (B4 X n) [.at []] (s8 (lT 0 kZ) sW ((o0,()),()) () 26)=B o0}:=by
 apply j4
 intro o0
 simp (config:={maxSteps:=100000000,implicitDefEqProofs:=false}) only[go_sem,jS,jT,jO,jP,jU,jV,jX,jY,jZ,jR,jW,j3,Tryz.f269,jQ,mixed,Mb X n]
 exact rfl
end Go.Abs
namespace Go.Abs
open Go.Proofs
set_option maxRecDepth 100000
set_option maxHeartbeats 4000000
noncomputable def Cf:DO:=⟨[],[],(zK::zA::zK::zK::zK::ow (nr (nr (zA::[])))),[oT kN.cel,oK,oT Syntax.cel],none,none⟩
@[reducible] noncomputable def C0 (X:kS) (n:Nat):lF T6:=qv Tryz.prog Tryz.f275 n (p9 Tryz.prog [.cell 2 29] [] [0] 1 qh (lM (lK Syntax.cel) kZ)) (cl:=oS [(122,entG [0] (wP (Ay kN.cel) vc) (Od 0 (XB nh L3)) (wP (Ay kN.cel) vc) (NI pQ Ke) (fun (b:Tb) a=>(mz n) b.1 a.1))]) (wU:=vR [([0,1,0,1,1],Cf)]) (pJ:=qa [] [0] 1 qi qj) (cp:=z6 [(72,ng (mJ n)),(282,CL X.o9)]) (Ab:=mU [72,282])
attribute [go_sem] Cf
noncomputable abbrev Cg (v0:Int) (o0:kN) (o2:Syntax):AState:=⟨(.ptr 0 0::qA:: .ptr 1 0:: .ptr 2 0:: .int .i64 v0::oJ (nQ (nQ (qA::[])))),[.cells (kN.cells o0),.cells [.int .i64 0,.str (sb []),.int .i64 0,.l5 true 0 [],.l5 true 0 [],.l5 true 0 [],.int .i64 0,.int .i64 0],.cells (Syntax.cells o2)],1,[]⟩
abbrev sG:=Int→kN→Syntax→Option T6
abbrev sH (X:kS) (n:Nat) (K:List Kt) (Z:sG):Prop:= ∀ (v0:Int) (o0:kN) (o2:Syntax),run (C0 X n) K (Cg v0 o0 o2)=Z v0 o0 o2
attribute [go_sem] Cg
noncomputable def wN (X:kS) (n:Nat):{B:sG→sG // ∀m X0,sH X n (.lq m [0,1,0,1,1]::[.blk 0,.cut [1,1,1],.at [1,1,1]]) X0→sH X n (.at [0,0,1,0,1,1]:: .lp m [0,1,0,1,1]::[.blk 0,.cut [1,1,1],.at [1,1,1]]) (B X0)}:=by
 apply j4
 intro m X0 ih v0 o0 o2
 simp (config:={maxSteps:=100000000,implicitDefEqProofs:=false}) only[go_sem,jS,jT,jO,jP,jU,jV,jX,jY,jZ,jR,jW,j3,Tryz.f275,jQ,mixed,ih]
 exact rfl
noncomputable def wO (X:kS) (n:Nat):Nat→sG:=FH ((wN X n).1)
theorem WK (X:kS) {n:Nat} {m:Nat}:wO X n (m+1)=(wN X n).1 (wO X n m):=rfl
theorem IS (X:kS) (n:Nat) (m:Nat):sH X n (.lq m [0,1,0,1,1]::[.blk 0,.cut [1,1,1],.at [1,1,1]]) (wO X n m):=
 mB (G:=fun m Z=>sH X n (.lq m [0,1,0,1,1]::[.blk 0,.cut [1,1,1],.at [1,1,1]]) Z) (fun _ _ _=>k7) (fun m _ ih v0 o0 o2=>k8.trans ((wN X n).2 _ _ ih v0 o0 o2)) m
noncomputable def x9 (X:kS) (n:Nat):{B:kN→Option T6 // ∀ (o0:kN),run (C0 X n) [.at []] (s8 (lT 0 kZ) qg ((o0,()),()) () 30)=B o0}:=by
 apply j4
 intro o0
 simp (config:={maxSteps:=100000000,implicitDefEqProofs:=false}) only[go_sem,jS,jT,jO,jP,jU,jV,jX,jY,jZ,jR,jW,j3,Tryz.f275,jQ,mixed,IS X n]
 exact rfl
end Go.Abs
namespace Go.Abs
open Go.Proofs
set_option maxRecDepth 100000
set_option maxHeartbeats 4000000
@[reducible] noncomputable def lB (X:kS) (n:Nat):lF T6:=qv Tryz.prog Tryz.f282 n (outDR (Mt [(289,IY [.arg 0 [],.obj 0 0 []] qt (lT 0 kZ) qu kZ (fun (b:(Unit×T0)) (a:Unit)=>(z7 n) b.2.1.1))]) (p9 Tryz.prog [.cell 2 29] [] [0] 1 q8 (lM (lK Syntax.cel) kZ)) (qa [] [0] 1 q9 rj)) (cl:=oS [(79,entV (rS (yR (zZ kN.cel) nh pQ (n4 n)))),(157,entV (rS (qR (zZ kN.cel) (mK .i64) (sC n))))]) (pJ:=outDP (Mt [(289,IY [.arg 0 [],.obj 0 0 []] qt (lT 0 kZ) qu kZ (fun (b:(Unit×T0)) (a:Unit)=>(z7 n) b.2.1.1))]) (p9 Tryz.prog [.cell 2 29] [] [0] 1 q8 (lM (lK Syntax.cel) kZ)) (qa [] [0] 1 q9 rj)) (co:=Na [(56,entVC (rS (qR (zZ kN.cel) (lK Token.cel) (mh n)))),(57,GK [.arg 0 []] pZ (lT 0 (lM pQ kZ)) p4 kZ p5 p6 (fun (b:T0) (a:(Bool×Unit))=>(n5 n) a.1 b.1.1)),(58,entVC (rS (qR (zZ kN.cel) (mK .i64) (tu n)))),(72,GK [.arg 0 []] qL (lT 0 (lM (mK .i64) kZ)) qM kZ qN qO (fun (b:T0) (a:(Int×Unit))=>(mJ n) a.1 b.1.1))]) (cp:=z6 [(290,Dn X.pX),(291,Jv X.qI)]) (Ab:=mU [290,291]) (AZ:=mU [56,57,58,72]) (AY:=mU [])
theorem Ra (X:kS) (n:Nat):nP (lB X n) [0,1]=true∧nP (lB X n) [0,1,1,0,1,1,1,1,1]=true∧nP (lB X n) [0,1,1,1,1]=true:=⟨by kernel_rfl,by kernel_rfl,by kernel_rfl⟩
theorem Rb (X:kS) (n:Nat):lS (lB X n) [0,1] 0 7=true∧lS (lB X n) [0,1] 3 7=true∧lS (lB X n) [0,1] 6 7=true∧lS (lB X n) [0,1,1,0,1,1,1,1,1] 3 6=true∧lS (lB X n) [0,1,1,0,1,1,1,1,1] 0 9=true∧lS (lB X n) [0,1,1,0,1,1,1,1,1] 3 9=true∧lS (lB X n) [0,1,1,0,1,1,1,1,1] 6 9=true∧lS (lB X n) [0,1,1,1,1] 0 3=true∧lS (lB X n) [0,1,1,1,1] 0 8=true∧lS (lB X n) [0,1,1,1,1] 3 8=true∧lS (lB X n) [0,1,1,1,1] 5 8=true∧lS (lB X n) [0,1,1,1,1] 0 11=true∧lS (lB X n) [0,1,1,1,1] 3 11=true∧lS (lB X n) [0,1,1,1,1] 5 11=true∧lS (lB X n) [0,1,1,1,1] 8 11=true∧lS (lB X n) [0,1,1,1,1] 10 11=true:=⟨by kernel_rfl,by kernel_rfl,by kernel_rfl,by kernel_rfl,by kernel_rfl,by kernel_rfl,by kernel_rfl,by kernel_rfl,by kernel_rfl,by kernel_rfl,by kernel_rfl,by kernel_rfl,by kernel_rfl,by kernel_rfl,by kernel_rfl,by kernel_rfl⟩
attribute [go_sem] Ra Rb
noncomputable def CP (X:kS) (n:Nat):{B:kN→Option T6 // ∀ (o0:kN),run (lB X n) [.at []] (s8 (lT 0 kZ) tP ((o0,()),()) () 54)=B o0}:=by
 apply j4
 intro o0
 simp (config:={maxSteps:=100000000,implicitDefEqProofs:=false}) only[go_sem,jS,jT,jO,jP,jU,jV,jX,jY,jZ,jR,jW,j3,Tryz.f282,jQ,mixed]
 exact rfl
end Go.Abs
namespace Go.Abs
open Go.Proofs
set_option maxRecDepth 100000
set_option maxHeartbeats 4000000
@[reducible] noncomputable def RT (X:kS) (n:Nat):lF Tl:=qv Tryz.prog Tryz.f290 n (p9 Tryz.prog [] [] [0,1] 2 uT kZ) (pJ:=qa [] [0,1] 2 uU uV) (cp:=z6 [(60,nK (n9 n)),(269,BR X.ot)]) (Ab:=mU [60,269])
noncomputable def Dt (X:kS) (n:Nat):{B:kN→Syntax→Option Tl // ∀ (o0:kN) (o1:Syntax),run (RT X n) [.at []] (s8 (lT 0 (lT 1 kZ)) uS ((o0,()),(o1,()),()) () 17)=B o0 o1}:=by
 apply j4
 intro o0 o1
 simp (config:={maxSteps:=100000000,implicitDefEqProofs:=false}) only[go_sem,jS,jT,jO,jP,jU,jV,jX,jY,jZ,jR,jW,j3,Tryz.f290,jQ,mixed]
 exact rfl
end Go.Abs
namespace Go.Abs
open Go.Proofs
set_option maxRecDepth 100000
set_option maxHeartbeats 4000000
noncomputable def IT:DO:=⟨[],[],(zK::zK::DR (DR (nr (nr (nr (zA::zA::zA::[])))))),[oT kN.cel,oC [zK,zK,zK,zK,zT (nj kO.row),zT (nj Syntax.row),zK,zK],oA nq],none,none⟩
@[reducible] noncomputable def mQ (X:kS) (n:Nat):lF Tl:=qv Tryz.prog Tryz.f291 n (p9 Tryz.prog [] [] [0,1] 2 uX kZ) (cl:=oS [(56,entV (rS (qR (zZ kN.cel) (lK Token.cel) (mh n)))),(59,entG [0] (wP (Ay kN.cel) vc) (Od 0 L3) (wP (Ay kN.cel) vc) (NI nh Ke) (fun (b:Tb) a=>(l8 n) b.1))]) (wU:=vR [([0,1,1,0,1,1,1,1,1,1,1,1,1,1,1,1,1,0,1],IT)]) (pJ:=qa [] [0,1] 2 uY uZ) (co:=Na [(59,GK [.arg 0 []] sP (lT 0 kZ) qx (lM nh kZ) qx (lM nh kZ) (fun (b:T0) (a:Unit)=>((Jb n) b.1.1).map fun r=>(PR.ok r:PR TP TP))),(72,GK [.arg 0 []] qL (lT 0 (lM (mK .i64) kZ)) qM kZ qN qO (fun (b:T0) (a:(Int×Unit))=>(mJ n) a.1 b.1.1))]) (cp:=z6 [(34,rN X.mw),(103,rV (tE n)),(119,qy (rW n)),(138,En (Gv n)),(179,zf (AN n)),(282,CL X.o9),(290,Dn X.pX),(294,E9 (G9 n))]) (Ab:=mU [34,103,119,138,179,282,290,294]) (AZ:=mU [59,72]) (AY:=mU [])
theorem RU (X:kS) (n:Nat):nP (mQ X n) [0,0,1,0,0,1,1,0,1,1,1,1,1,1,1,1,1,1,1,1,1,0,1]=true∧nP (mQ X n) [1,0,1,0,0,1,1,0,1,1,1,1,1,1,1,1,1,1,1,1,1,0,1]=true:=⟨by kernel_rfl,by kernel_rfl⟩
theorem RV (X:kS) (n:Nat):lS (mQ X n) [0,0,1,0,0,1,1,0,1,1,1,1,1,1,1,1,1,1,1,1,1,0,1] 6 8=true∧lS (mQ X n) [0,0,1,0,0,1,1,0,1,1,1,1,1,1,1,1,1,1,1,1,1,0,1] 7 8=true∧lS (mQ X n) [1,0,1,0,0,1,1,0,1,1,1,1,1,1,1,1,1,1,1,1,1,0,1] 4 10=true∧lS (mQ X n) [1,0,1,0,0,1,1,0,1,1,1,1,1,1,1,1,1,1,1,1,1,0,1] 8 10=true∧lS (mQ X n) [1,0,1,0,0,1,1,0,1,1,1,1,1,1,1,1,1,1,1,1,1,0,1] 4 13=true∧lS (mQ X n) [1,0,1,0,0,1,1,0,1,1,1,1,1,1,1,1,1,1,1,1,1,0,1] 8 13=true∧lS (mQ X n) [1,0,1,0,0,1,1,0,1,1,1,1,1,1,1,1,1,1,1,1,1,0,1] 10 13=true:=⟨by kernel_rfl,by kernel_rfl,by kernel_rfl,by kernel_rfl,by kernel_rfl,by kernel_rfl,by kernel_rfl⟩
attribute [go_sem] RU RV IT
noncomputable abbrev CQ (o0:kN) (v1:Int) (v2:Str) (v3:Int) (v4:List kO) (v5:List Syntax) (v6:Int) (v7:Int) (r2:List Str) (c2:Nat):AState:=⟨(.ptr 0 0:: .ptr 1 0::DQ (DQ (nQ (nQ (nQ (qA::qA::qA::[])))))),[.cells (kN.cells o0),.cells [.int .i64 v1,.str (sb v2),.int .i64 v3,.acc 2 c2,.l5 false 2 (mp kO.cells v4),.l5 false 8 (mp Syntax.cells v5),.int .i64 v6,.int .i64 v7],.acc true 1 (mp mo r2)],2,[]⟩
abbrev yN:=kN→Int→Str→Int→Te→(List Syntax)→Int→Int→(List Str)→Option Tl
abbrev CR (X:kS) (n:Nat) (K:List Kt) (Z:yN):Prop:= ∀ (o0:kN) (v1:Int) (v2:Str) (v3:Int) (v4:List kO) (v5:List Syntax) (v6:Int) (v7:Int) (r2:List Str) (c2:Nat),c2=r2.length→run (mQ X n) K (CQ o0 v1 v2 v3 v4 v5 v6 v7 r2 c2)=Z o0 v1 v2 v3 v4 v5 v6 v7 r2
attribute [go_sem] CQ
noncomputable def CS (X:kS) (n:Nat):{B:yN→yN // ∀m X0,CR X n (.lq m [0,1,1,0,1,1,1,1,1,1,1,1,1,1,1,1,1,0,1]::[.blk 1,.blk 0]) X0→ ∀ (o0:kN) (v1:Int) (v2:Str) (v3:Int) (v4:List kO) (v5:List Syntax) (v6:Int) (v7:Int) (r2:List Str),run (mQ X n) (.at [0,0,1,1,0,1,1,1,1,1,1,1,1,1,1,1,1,1,0,1]:: .lp m [0,1,1,0,1,1,1,1,1,1,1,1,1,1,1,1,1,0,1]::[.blk 1,.blk 0]) (CQ o0 v1 v2 v3 v4 v5 v6 v7 r2 (r2.length))=B X0 o0 v1 v2 v3 v4 v5 v6 v7 r2}:=by
 apply j4
 intro m X0 ih o0 v1 v2 v3 v4 v5 v6 v7 r2
 simp (config:={maxSteps:=100000000,implicitDefEqProofs:=false}) only[go_sem,jS,jT,jO,jP,jU,jV,jX,jY,jZ,jR,jW,j3,Tryz.f291,jQ,mixed,ih]
 exact rfl
noncomputable def CT (X:kS) (n:Nat):Nat→yN:=FH ((CS X n).1)
theorem parser_parser_known_l1_s (X:kS) {n:Nat} {m:Nat}:CT X n (m+1)=(CS X n).1 (CT X n m):=rfl
theorem Nu (X:kS) (n:Nat) (m:Nat):CR X n (.lq m [0,1,1,0,1,1,1,1,1,1,1,1,1,1,1,1,1,0,1]::[.blk 1,.blk 0]) (CT X n m):=
 mB (G:=fun m Z=>CR X n (.lq m [0,1,1,0,1,1,1,1,1,1,1,1,1,1,1,1,1,0,1]::[.blk 1,.blk 0]) Z) (fun _ _ _ _ _ _ _ _ _ _ _=>k7) (fun m _ ih=>by
  intro o0 v1 v2 v3 v4 v5 v6 v7 r2 c2 ec2
  subst ec2
  rw[k8]
  exact (CS X n).2 _ _ ih o0 v1 v2 v3 v4 v5 v6 v7 r2) m
noncomputable def Du (X:kS) (n:Nat):{B:kN→Syntax→Option Tl // ∀ (o0:kN) (o1:Syntax),run (mQ X n) [.at []] (s8 (lT 0 (lT 1 kZ)) uW ((o0,()),(o1,()),()) () 145)=B o0 o1}:=by
 apply j4
 intro o0 o1
 simp (config:={maxSteps:=100000000,implicitDefEqProofs:=false}) only[go_sem,jS,jT,jO,jP,jU,jV,jX,jY,jZ,jR,jW,j3,Tryz.f291,jQ,mixed,Nu X n]
 exact rfl
end Go.Abs
namespace Go.Abs
open Go.Proofs
set_option maxRecDepth 100000
set_option maxHeartbeats 4000000
@[reducible] noncomputable def rq (X:kS) (n:Nat):lF T6:=qv Tryz.prog Tryz.f77 n (p9 Tryz.prog [.cell 8 29] [] [0] 1 qC (lM (lK Syntax.cel) kZ)) (cd:=Pd [(121,rS (Sm (lK Syntax.cel) (nj kT.row) (lK Syntax.cel) (lK Syntax.cel) (NV n)))]) (pJ:=qa [] [0] 1 qD qE) (co:=Na [(34,GK [.arg 0 []] pS (lT 0 kZ) oh (lM (lK Syntax.cel) kZ) om oo (fun (b:T0) (a:Unit)=>X.mw b.1.1))]) (cp:=z6 [(60,nK (n9 n))]) (Ab:=mU [60]) (AZ:=mU [34]) (AY:=mU [])
theorem P6 (X:kS) (n:Nat):nP (rq X n) [0,1,1]=true:=by kernel_rfl
theorem P7 (X:kS) (n:Nat):lS (rq X n) [0,1,1] 0 5=true∧lS (rq X n) [0,1,1] 3 5=true:=⟨by kernel_rfl,by kernel_rfl⟩
theorem P8 (X:kS) (n:Nat):Gq (rq X n) [0,1,1] 3 4=true∧Gq (rq X n) [0,1,1] 3 5=true:=⟨by kernel_rfl,by kernel_rfl⟩
attribute [go_sem] P6 P7 P8
noncomputable def B6 (X:kS) (n:Nat):{B:Syntax→Ti→Str→kN→Option T6 // ∀ (a0:Syntax) (a1:Ti) (a2:Str) (o0:kN),run (rq X n) [.at []] (s8 qz qB ((o0,()),()) (a0,a1,a2,()) 19)=B a0 a1 a2 o0}:=by
 apply j4
 intro a0 a1 a2 o0
 simp (config:={maxSteps:=100000000,implicitDefEqProofs:=false}) only[go_sem,jS,jT,jO,jP,jU,jV,jX,jY,jZ,jR,jW,j3,Tryz.f77,jQ,mixed]
 exact rfl
end Go.Abs
namespace Go.Abs
open Go.Proofs
set_option maxRecDepth 100000
set_option maxHeartbeats 4000000
noncomputable def kQ:Nat→kS
 |0=>⟨Fu.z,Fu.z,Fu.z,Fu.z,Fu.z,Fu.z,Fu.z,Fu.z,Fu.z,Fu.z,Fu.z,Fu.z,Fu.z,Fu.z,Fu.z,Fu.z,Fu.z,Fu.z⟩
 |n+1=>⟨(Ep (kQ n) n).1,(Fy (kQ n) n).1,(CM (kQ n) n).1,(Fz (kQ n) n).1,(Dp (kQ n) n).1,(Gx (kQ n) n).1,(Ex (kQ n) n).1,(FE (kQ n) n).1,(EA (kQ n) n).1,(Ds (kQ n) n).1,(CN (kQ n) n).1,(EC (kQ n) n).1,(B5 (kQ n) n).1,(x9 (kQ n) n).1,(CP (kQ n) n).1,(Dt (kQ n) n).1,(Du (kQ n) n).1,(B6 (kQ n) n).1⟩
noncomputable def mw (n:Nat):kN→Option T6:=(kQ n).mw
theorem parser_parser_expr_s {n:Nat}:mw (n+1)=(Ep (kQ n) n).1:=rfl
noncomputable def sD (n:Nat):Int→kN→Option T6:=(kQ n).sD
theorem parser_parser_fun_s {n:Nat}:sD (n+1)=(Fy (kQ n) n).1:=rfl
noncomputable def oZ (n:Nat):Str→Str→kN→Option Tw:=(kQ n).oZ
theorem parser_parser_binder_s {n:Nat}:oZ (n+1)=(CM (kQ n) n).1:=rfl
noncomputable def sE (n:Nat):Int→kN→Option T6:=(kQ n).sE
theorem parser_parser_let_s {n:Nat}:sE (n+1)=(Fz (kQ n) n).1:=rfl
noncomputable def qG (n:Nat):Int→kN→Option T6:=(kQ n).qG
theorem parser_parser_arrow_s {n:Nat}:qG (n+1)=(Dp (kQ n) n).1:=rfl
noncomputable def tQ (n:Nat):kN→Option T6:=(kQ n).tQ
theorem parser_parser_op_s {n:Nat}:tQ (n+1)=(Gx (kQ n) n).1:=rfl
noncomputable def rO (n:Nat):kN→Option T6:=(kQ n).rO
theorem parser_parser_item_s {n:Nat}:rO (n+1)=(Ex (kQ n) n).1:=rfl
noncomputable def sF (n:Nat):kN→Option T6:=(kQ n).sF
theorem parser_parser_app_s {n:Nat}:sF (n+1)=(FE (kQ n) n).1:=rfl
noncomputable def rP (n:Nat):kN→Option T6:=(kQ n).rP
theorem parser_parser_atom_s {n:Nat}:rP (n+1)=(EA (kQ n) n).1:=rfl
noncomputable def qH (n:Nat):kN→Option T6:=(kQ n).qH
theorem parser_parser_basic_s {n:Nat}:qH (n+1)=(Ds (kQ n) n).1:=rfl
noncomputable def qk (n:Nat):Syntax→kN→Option T6:=(kQ n).qk
theorem parser_parser_parens_s {n:Nat}:qk (n+1)=(CN (kQ n) n).1:=rfl
noncomputable def rQ (n:Nat):kN→Syntax→Option Tl:=(kQ n).rQ
theorem parser_parser_fill_s {n:Nat}:rQ (n+1)=(EC (kQ n) n).1:=rfl
noncomputable def ot (n:Nat):kN→Option Tu:=(kQ n).ot
theorem parser_parser_tactics_s {n:Nat}:ot (n+1)=(B5 (kQ n) n).1:=rfl
noncomputable def nL (n:Nat):kN→Option T6:=(kQ n).nL
theorem Yh {n:Nat}:nL (n+1)=(x9 (kQ n) n).1:=rfl
noncomputable def o9 (n:Nat):kN→Option T6:=(kQ n).o9
theorem parser_parser_tactic_s {n:Nat}:o9 (n+1)=(CP (kQ n) n).1:=rfl
noncomputable def pX (n:Nat):kN→Syntax→Option Tl:=(kQ n).pX
theorem parser_parser_block_s {n:Nat}:pX (n+1)=(Dt (kQ n) n).1:=rfl
noncomputable def qI (n:Nat):kN→Syntax→Option Tl:=(kQ n).qI
theorem parser_parser_known_s {n:Nat}:qI (n+1)=(Du (kQ n) n).1:=rfl
noncomputable def pT (n:Nat):Syntax→Ti→Str→kN→Option T6:=(kQ n).pT
theorem parser_parser_product_s {n:Nat}:pT (n+1)=(B6 (kQ n) n).1:=rfl
theorem parser_parser_expr_qq {n:Nat}:(kQ n).mw=mw n∧(kQ n).sD=sD n∧(kQ n).oZ=oZ n∧(kQ n).sE=sE n∧(kQ n).qG=qG n∧(kQ n).tQ=tQ n∧(kQ n).rO=rO n∧(kQ n).sF=sF n∧(kQ n).rP=rP n∧(kQ n).qH=qH n∧(kQ n).qk=qk n∧(kQ n).rQ=rQ n∧(kQ n).ot=ot n∧(kQ n).nL=nL n∧(kQ n).o9=o9 n∧(kQ n).pX=pX n∧(kQ n).qI=qI n∧(kQ n).pT=pT n:=⟨rfl,rfl,rfl,rfl,rfl,rfl,rfl,rfl,rfl,rfl,rfl,rfl,rfl,rfl,rfl,rfl,rfl,rfl⟩
theorem lD: ∀n:Nat,(∀ (o0:kN) (r:T6),(kQ n).mw o0=some r→SP Tryz.prog 34 (lT 0 kZ) pS ((o0,()),()) () true oh (lM (lK Syntax.cel) kZ) om oo r)∧(∀ (a0:Int) (o0:kN) (r:T6),(kQ n).sD a0 o0=some r→SP Tryz.prog 75 (lT 0 (lM (mK .i64) kZ)) wB ((o0,()),()) (a0,()) true wC (lM (lK Syntax.cel) kZ) wD wE r)∧(∀ (a0:Str) (a1:Str) (o0:kN) (r:Tw),(kQ n).oZ a0 a1 o0=some r→SP Tryz.prog 78 (lT 0 (lM nh (lM nh kZ))) q4 ((o0,()),()) (a0,a1,()) true q5 (lM (nj kT.row) kZ) q6 q7 r)∧(∀ (a0:Int) (o0:kN) (r:T6),(kQ n).sE a0 o0=some r→SP Tryz.prog 76 (lT 0 (lM (mK .i64) kZ)) wF ((o0,()),()) (a0,()) true wG (lM (lK Syntax.cel) kZ) wH wI r)∧(∀ (a0:Int) (o0:kN) (r:T6),(kQ n).qG a0 o0=some r→SP Tryz.prog 80 (lT 0 (lM (mK .i64) kZ)) uK ((o0,()),()) (a0,()) true uL (lM (lK Syntax.cel) kZ) uM uN r)∧(∀ (o0:kN) (r:T6),(kQ n).tQ o0=some r→SP Tryz.prog 125 (lT 0 kZ) yp ((o0,()),()) () true yq (lM (lK Syntax.cel) kZ) yt yu r)∧(∀ (o0:kN) (r:T6),(kQ n).rO o0=some r→SP Tryz.prog 163 (lT 0 kZ) vE ((o0,()),()) () true vF (lM (lK Syntax.cel) kZ) vG vH r)∧(∀ (o0:kN) (r:T6),(kQ n).sF o0=some r→SP Tryz.prog 196 (lT 0 kZ) wJ ((o0,()),()) () true wK (lM (lK Syntax.cel) kZ) wL wM r)∧(∀ (o0:kN) (r:T6),(kQ n).rP o0=some r→SP Tryz.prog 217 (lT 0 kZ) vI ((o0,()),()) () true vJ (lM (lK Syntax.cel) kZ) vK vL r)∧(∀ (o0:kN) (r:T6),(kQ n).qH o0=some r→SP Tryz.prog 241 (lT 0 kZ) uO ((o0,()),()) () true uP (lM (lK Syntax.cel) kZ) uQ uR r)∧(∀ (a0:Syntax) (o0:kN) (r:T6),(kQ n).qk a0 o0=some r→SP Tryz.prog 258 (lT 0 (lM (lK Syntax.cel) kZ)) tL ((o0,()),()) (a0,()) true tM (lM (lK Syntax.cel) kZ) tN tO r)∧(∀ (o0:kN) (o1:Syntax) (r:Tl),(kQ n).rQ o0 o1=some r→SP Tryz.prog 259 (lT 0 (lT 1 kZ)) vM ((o0,()),(o1,()),()) () true vN kZ vO vP r)∧(∀ (o0:kN) (r:Tu),(kQ n).ot o0=some r→SP Tryz.prog 269 (lT 0 kZ) sW ((o0,()),()) () true sX (lM (nj Syntax.row) kZ) sY sZ r)∧(∀ (o0:kN) (r:T6),(kQ n).nL o0=some r→SP Tryz.prog 275 (lT 0 kZ) qg ((o0,()),()) () true qh (lM (lK Syntax.cel) kZ) qi qj r)∧(∀ (o0:kN) (r:T6),(kQ n).o9 o0=some r→SP Tryz.prog 282 (lT 0 kZ) tP ((o0,()),()) () true q8 (lM (lK Syntax.cel) kZ) q9 rj r)∧(∀ (o0:kN) (o1:Syntax) (r:Tl),(kQ n).pX o0 o1=some r→SP Tryz.prog 290 (lT 0 (lT 1 kZ)) uS ((o0,()),(o1,()),()) () true uT kZ uU uV r)∧(∀ (o0:kN) (o1:Syntax) (r:Tl),(kQ n).qI o0 o1=some r→SP Tryz.prog 291 (lT 0 (lT 1 kZ)) uW ((o0,()),(o1,()),()) () true uX kZ uY uZ r)∧(∀ (a0:Syntax) (a1:Ti) (a2:Str) (o0:kN) (r:T6),(kQ n).pT a0 a1 a2 o0=some r→SP Tryz.prog 77 qz qB ((o0,()),()) (a0,a1,a2,()) true qC (lM (lK Syntax.cel) kZ) qD qE r)
 |0=>⟨fun _ _ h=>(by cases h),fun _ _ _ h=>(by cases h),fun _ _ _ _ h=>(by cases h),fun _ _ _ h=>(by cases h),fun _ _ _ h=>(by cases h),fun _ _ h=>(by cases h),fun _ _ h=>(by cases h),fun _ _ h=>(by cases h),fun _ _ h=>(by cases h),fun _ _ h=>(by cases h),fun _ _ _ h=>(by cases h),fun _ _ _ h=>(by cases h),fun _ _ h=>(by cases h),fun _ _ h=>(by cases h),fun _ _ h=>(by cases h),fun _ _ _ h=>(by cases h),fun _ _ _ h=>(by cases h),fun _ _ _ _ _ h=>(by cases h)⟩
 |n+1=>by
  obtain ⟨pU,Uk,Hh,Ul,Rc,U0,RW,Um,RX,Rd,P9,RY,F6,K4,Hi,IU,Re,O1⟩:=lD n
  exact ⟨fun o0 r h=>okPD (tabD1_ok fun u=>Pj tdef_mono (fun _ _ _ _=>rfl) (by kernel_rfl) (fun b a r h=>(My n) b.2.1.1 r h u)) (((Ep (kQ n) n).2 o0).trans h) (gd (kV (oa (nG (sJ n))) (kV (oI (fun b a r h=>(lU n) b.1 r h)) (kV (oa (Mq (yg n))) (kV (oa (Ad (nR n))) kW)))) kX (p:=(kY (ld (fun b a r h=>(Uk) a.1 b.1.1 r h)) (kY (ld (fun b a r h=>(Ul) a.1 b.1.1 r h)) (kY (ld (fun b a r h=>(Rc) a.1 b.1.1 r h)) lP)))) (c:=(mW (yZ (fun b a r h=>(mm n) a.1 b.1.1 r h)) (mW (yZ (fun b a r h=>(O1) a.1 a.2.1 a.2.2.1 b.1.1 r h)) (mW (yZ (fun b a r h=>(Hh) a.1 a.2.1 b.1.1 r h)) tA))))) Tryz.func34 Tryz.ntmps34 Tryz.results34,
   fun a0 o0 r h=>Qv (((Fy (kQ n) n).2 a0 o0).trans h) (gd (kV (oI (fun b a r h=>(lU n) b.1 r h)) (kV (oa (Ad (nR n))) (kV (oI (fun b a r h=>(Ja n) b.1 r h)) (kV (Wj (MN n)) kW)))) kX (p:=(kY (ld (fun b a r h=>(pU) b.1.1 r h)) (kY (ld (fun b a r h=>(nT n) a.1 b.1.1 r h)) (kY (ld (fun b a r h=>(mm n) a.1 b.1.1 r h)) (kY (ld (fun b a r h=>(Hh) a.1 a.2.1 b.1.1 r h)) (kY (ld (fun b a r h=>(su n) b.1.1 r h)) lP))))))) Tryz.func75 Tryz.ntmps75 Tryz.results75,
   fun a0 a1 o0 r h=>Qv (((CM (kQ n) n).2 a0 a1 o0).trans h) (gd (kV (oI (fun b a r h=>(lU n) b.1 r h)) (kV (oa (nG (yK n))) (kV (qS (Rs n)) kW))) kX (p:=(kY (ld (fun b a r h=>(pU) b.1.1 r h)) (kY (ld (fun b a r h=>(nT n) a.1 b.1.1 r h)) (kY (ld (fun b a r h=>(mm n) a.1 b.1.1 r h)) (kY (ld (fun b a r h=>(su n) b.1.1 r h)) lP)))))) Tryz.func78 Tryz.ntmps78 Tryz.results78,
   fun a0 o0 r h=>Qv (((Fz (kQ n) n).2 a0 o0).trans h) (gd (kV (oI (fun b a r h=>(lU n) b.1 r h)) (kV (oI (fun b a r h=>(Ja n) b.1 r h)) (kV (oI (fun b a r h=>(me n) b.1 a.1 r h)) kW))) kX (p:=(kY (ld (fun b a r h=>(pU) b.1.1 r h)) (kY (ld (fun b a r h=>(nT n) a.1 b.1.1 r h)) (kY (ld (fun b a r h=>(su n) b.1.1 r h)) lP))))) Tryz.func76 Tryz.ntmps76 Tryz.results76,
   fun a0 o0 r h=>Qv (((Dp (kQ n) n).2 a0 o0).trans h) (gd (kV (oI (fun b a r h=>(me n) b.1 a.1 r h)) (kV (qS (Rs n)) (kV (oI (fun b a r h=>(OB n) b.1 a.1 r h)) kW))) (s7 (Mq (MN n)) kX) (p:=(kY (ld (fun b a r h=>(U0) b.1.1 r h)) lP)) (c:=(mW (yZ (fun b a r h=>(pU) b.1.1 r h)) tA))) Tryz.func80 Tryz.ntmps80 Tryz.results80,
   fun o0 r h=>Qv (((Gx (kQ n) n).2 o0).trans h) (gd (kV (oa (nG (E8 n))) (kV (oa (nG (GW n))) (kV (qS (WG n)) kW))) kX (p:=(kY (ld (fun b a r h=>(nS n) a.1 b.1.1 r h)) (kY (ld (fun b a r h=>(mm n) a.1 b.1.1 r h)) (kY (ld (fun b a r h=>(tF n) a.1 b.1.1 r h)) (kY (ld (fun b a r h=>(RW) b.1.1 r h)) lP)))))) Tryz.func125 Tryz.ntmps125 Tryz.results125,
   fun o0 r h=>Qv (((Ex (kQ n) n).2 o0).trans h) (gd (kV (oa (nG (sJ n))) (kV (oI (fun b a r h=>(lU n) b.1 r h)) (kV (oa (nG (rF n))) (kV (oa (nG (E8 n))) kW)))) kX (p:=(kY (ld (fun b a r h=>(Um) b.1.1 r h)) lP))) Tryz.func163 Tryz.ntmps163 Tryz.results163,
   fun o0 r h=>Qv (((FE (kQ n) n).2 o0).trans h) (gd (kV (oa (nG (GW n))) kW) kX (p:=(kY (ld (fun b a r h=>(mm n) a.1 b.1.1 r h)) (kY (ld (fun b a r h=>(RX) b.1.1 r h)) lP)))) Tryz.func196 Tryz.ntmps196 Tryz.results196,
   fun o0 r h=>Qv (((EA (kQ n) n).2 o0).trans h) (gd (kV (oI (fun b a r h=>(lU n) b.1 r h)) (kV (oa (Ad (nR n))) kW)) kX (p:=(kY (ld (fun b a r h=>(mm n) a.1 b.1.1 r h)) (kY (ld (fun b a r h=>(Rd) b.1.1 r h)) lP))) (c:=(mW (Kh (nG (rF n))) tA))) Tryz.func217 Tryz.ntmps217 Tryz.results217,
   fun o0 r h=>Qv (((Ds (kQ n) n).2 o0).trans h) (gd (kV (oa (nG (sJ n))) (kV (oI (fun b a r h=>(me n) b.1 a.1 r h)) (kV (oa (nG (rF n))) kW))) kX (p:=(kY (ld (fun b a r h=>(P9) a.1 b.1.1 r h)) (kY (ld (fun b a r h=>(RY) b.1.1 b.2.1.1 r h)) lP)))) Tryz.func241 Tryz.ntmps241 Tryz.results241,
   fun a0 o0 r h=>Qv (((CN (kQ n) n).2 a0 o0).trans h) (gd (kV (oI (fun b a r h=>(me n) b.1 a.1 r h)) (kV (oa (nG (rF n))) kW)) kX (p:=(kY (ld (fun b a r h=>(pU) b.1.1 r h)) (kY (ld (fun b a r h=>(nT n) a.1 b.1.1 r h)) (kY (ld (fun b a r h=>(mm n) a.1 b.1.1 r h)) lP)))) (c:=(mW (yZ (fun b a r h=>(pU) b.1.1 r h)) (mW (yZ (fun b a r h=>(nS n) a.1 b.1.1 r h)) (mW (Kh (Ad (nR n))) (mW (Kh (nG (rF n))) tA)))))) Tryz.func258 Tryz.ntmps258 Tryz.results258,
   fun o0 o1 r h=>Qv (((EC (kQ n) n).2 o0 o1).trans h) (gd (kV (oa (nG (lZ n))) (kV (oI (fun b a r h=>(lU n) b.1 r h)) (kV (oa (Mq (yg n))) (kV (oI (fun b a r h=>(me n) b.1 a.1 r h)) kW)))) kX (p:=(kY (ld (fun b a r h=>(nT n) a.1 b.1.1 r h)) (kY (ld (fun b a r h=>(tF n) a.1 b.1.1 r h)) (kY (ld (fun b a r h=>(Jj n) b.1.1 r h)) (kY (ld (fun b a r h=>(BP n) b.1.1 r h)) (kY (ld (fun b a r h=>(P1 n) b.1.1 r h)) (kY (ld (fun b a r h=>(Ub n) b.1.1 r h)) (kY (ld (fun b a r h=>(F6) b.1.1 r h)) lP))))))))) Tryz.func259 Tryz.ntmps259 Tryz.results259,
   fun o0 r h=>Qv (((B5 (kQ n) n).2 o0).trans h) (gd (kV (oa (Ad (nR n))) (kV (oI (fun b a r h=>(me n) b.1 a.1 r h)) kW)) kX (p:=(kY (ld (fun b a r h=>(mm n) a.1 b.1.1 r h)) (kY (ld (fun b a r h=>(K4) b.1.1 r h)) lP)))) Tryz.func269 Tryz.ntmps269 Tryz.results269,
   fun o0 r h=>Qv (((x9 (kQ n) n).2 o0).trans h) (gd (kV (oI (fun b a r h=>(me n) b.1 a.1 r h)) kW) kX (p:=(kY (ld (fun b a r h=>(mm n) a.1 b.1.1 r h)) (kY (ld (fun b a r h=>(Hi) b.1.1 r h)) lP)))) Tryz.func275 Tryz.ntmps275 Tryz.results275,
   fun o0 r h=>okPD (tabD1_ok fun u=>Pj tdef_mono (fun _ _ _ _=>rfl) (by kernel_rfl) (fun b a r h=>(Lf n) b.2.1.1 r h u)) (((CP (kQ n) n).2 o0).trans h) (gd (kV (oa (Ad (nR n))) (kV (oa (nG (rF n))) kW)) kX (p:=(kY (ld (fun b a r h=>(IU) b.1.1 b.2.1.1 r h)) (kY (ld (fun b a r h=>(Re) b.1.1 b.2.1.1 r h)) lP))) (c:=(mW (Kh (nG (lZ n))) (mW (yZ (fun b a r h=>(nS n) a.1 b.1.1 r h)) (mW (Kh (nG (sJ n))) (mW (yZ (fun b a r h=>(mm n) a.1 b.1.1 r h)) tA)))))) Tryz.func282 Tryz.ntmps282 Tryz.results282,
   fun o0 o1 r h=>Qv (((Dt (kQ n) n).2 o0 o1).trans h) (gd kW kX (p:=(kY (ld (fun b a r h=>(nT n) a.1 b.1.1 r h)) (kY (ld (fun b a r h=>(F6) b.1.1 r h)) lP)))) Tryz.func290 Tryz.ntmps290 Tryz.results290,
   fun o0 o1 r h=>Qv (((Du (kQ n) n).2 o0 o1).trans h) (gd (kV (oa (nG (lZ n))) (kV (oI (fun b a r h=>(lU n) b.1 r h)) kW)) kX (p:=(kY (ld (fun b a r h=>(pU) b.1.1 r h)) (kY (ld (fun b a r h=>(tF n) a.1 b.1.1 r h)) (kY (ld (fun b a r h=>(su n) b.1.1 r h)) (kY (ld (fun b a r h=>(Jj n) b.1.1 r h)) (kY (ld (fun b a r h=>(DH n) b.1.1 r h)) (kY (ld (fun b a r h=>(Hi) b.1.1 r h)) (kY (ld (fun b a r h=>(IU) b.1.1 b.2.1.1 r h)) (kY (ld (fun b a r h=>(MT n) b.1.1 r h)) lP))))))))) (c:=(mW (entXO_ok (fun b a r h=>(Oy n) b.1.1 r h)) (mW (yZ (fun b a r h=>(mm n) a.1 b.1.1 r h)) tA)))) Tryz.func291 Tryz.ntmps291 Tryz.results291,
   fun a0 a1 a2 o0 r h=>Qv (((B6 (kQ n) n).2 a0 a1 a2 o0).trans h) (gd kW (s7 (Mq (MN n)) kX) (p:=(kY (ld (fun b a r h=>(nT n) a.1 b.1.1 r h)) lP)) (c:=(mW (yZ (fun b a r h=>(pU) b.1.1 r h)) tA))) Tryz.func77 Tryz.ntmps77 Tryz.results77⟩
theorem RZ (n:Nat): ∀ (o0:kN) (r:T6),mw n o0=some r→SP Tryz.prog 34 (lT 0 kZ) pS ((o0,()),()) () true oh (lM (lK Syntax.cel) kZ) om oo r:=(lD n).1
theorem parser_parser_fun_ok (n:Nat): ∀ (a0:Int) (o0:kN) (r:T6),sD n a0 o0=some r→SP Tryz.prog 75 (lT 0 (lM (mK .i64) kZ)) wB ((o0,()),()) (a0,()) true wC (lM (lK Syntax.cel) kZ) wD wE r:=(lD n).2.1
theorem parser_parser_binder_ok (n:Nat): ∀ (a0:Str) (a1:Str) (o0:kN) (r:Tw),oZ n a0 a1 o0=some r→SP Tryz.prog 78 (lT 0 (lM nh (lM nh kZ))) q4 ((o0,()),()) (a0,a1,()) true q5 (lM (nj kT.row) kZ) q6 q7 r:=(lD n).2.2.1
theorem parser_parser_let_ok (n:Nat): ∀ (a0:Int) (o0:kN) (r:T6),sE n a0 o0=some r→SP Tryz.prog 76 (lT 0 (lM (mK .i64) kZ)) wF ((o0,()),()) (a0,()) true wG (lM (lK Syntax.cel) kZ) wH wI r:=(lD n).2.2.2.1
theorem parser_parser_arrow_ok (n:Nat): ∀ (a0:Int) (o0:kN) (r:T6),qG n a0 o0=some r→SP Tryz.prog 80 (lT 0 (lM (mK .i64) kZ)) uK ((o0,()),()) (a0,()) true uL (lM (lK Syntax.cel) kZ) uM uN r:=(lD n).2.2.2.2.1
theorem parser_parser_op_ok (n:Nat): ∀ (o0:kN) (r:T6),tQ n o0=some r→SP Tryz.prog 125 (lT 0 kZ) yp ((o0,()),()) () true yq (lM (lK Syntax.cel) kZ) yt yu r:=(lD n).2.2.2.2.2.1
theorem parser_parser_item_ok (n:Nat): ∀ (o0:kN) (r:T6),rO n o0=some r→SP Tryz.prog 163 (lT 0 kZ) vE ((o0,()),()) () true vF (lM (lK Syntax.cel) kZ) vG vH r:=(lD n).2.2.2.2.2.2.1
theorem parser_parser_app_ok (n:Nat): ∀ (o0:kN) (r:T6),sF n o0=some r→SP Tryz.prog 196 (lT 0 kZ) wJ ((o0,()),()) () true wK (lM (lK Syntax.cel) kZ) wL wM r:=(lD n).2.2.2.2.2.2.2.1
theorem parser_parser_atom_ok (n:Nat): ∀ (o0:kN) (r:T6),rP n o0=some r→SP Tryz.prog 217 (lT 0 kZ) vI ((o0,()),()) () true vJ (lM (lK Syntax.cel) kZ) vK vL r:=(lD n).2.2.2.2.2.2.2.2.1
theorem parser_parser_basic_ok (n:Nat): ∀ (o0:kN) (r:T6),qH n o0=some r→SP Tryz.prog 241 (lT 0 kZ) uO ((o0,()),()) () true uP (lM (lK Syntax.cel) kZ) uQ uR r:=(lD n).2.2.2.2.2.2.2.2.2.1
theorem parser_parser_parens_ok (n:Nat): ∀ (a0:Syntax) (o0:kN) (r:T6),qk n a0 o0=some r→SP Tryz.prog 258 (lT 0 (lM (lK Syntax.cel) kZ)) tL ((o0,()),()) (a0,()) true tM (lM (lK Syntax.cel) kZ) tN tO r:=(lD n).2.2.2.2.2.2.2.2.2.2.1
theorem parser_parser_fill_ok (n:Nat): ∀ (o0:kN) (o1:Syntax) (r:Tl),rQ n o0 o1=some r→SP Tryz.prog 259 (lT 0 (lT 1 kZ)) vM ((o0,()),(o1,()),()) () true vN kZ vO vP r:=(lD n).2.2.2.2.2.2.2.2.2.2.2.1
theorem parser_parser_tactics_ok (n:Nat): ∀ (o0:kN) (r:Tu),ot n o0=some r→SP Tryz.prog 269 (lT 0 kZ) sW ((o0,()),()) () true sX (lM (nj Syntax.row) kZ) sY sZ r:=(lD n).2.2.2.2.2.2.2.2.2.2.2.2.1
theorem XN (n:Nat): ∀ (o0:kN) (r:T6),nL n o0=some r→SP Tryz.prog 275 (lT 0 kZ) qg ((o0,()),()) () true qh (lM (lK Syntax.cel) kZ) qi qj r:=(lD n).2.2.2.2.2.2.2.2.2.2.2.2.2.1
theorem parser_parser_tactic_ok (n:Nat): ∀ (o0:kN) (r:T6),o9 n o0=some r→SP Tryz.prog 282 (lT 0 kZ) tP ((o0,()),()) () true q8 (lM (lK Syntax.cel) kZ) q9 rj r:=(lD n).2.2.2.2.2.2.2.2.2.2.2.2.2.2.1
theorem parser_parser_block_ok (n:Nat): ∀ (o0:kN) (o1:Syntax) (r:Tl),pX n o0 o1=some r→SP Tryz.prog 290 (lT 0 (lT 1 kZ)) uS ((o0,()),(o1,()),()) () true uT kZ uU uV r:=(lD n).2.2.2.2.2.2.2.2.2.2.2.2.2.2.2.1
theorem parser_parser_known_ok (n:Nat): ∀ (o0:kN) (o1:Syntax) (r:Tl),qI n o0 o1=some r→SP Tryz.prog 291 (lT 0 (lT 1 kZ)) uW ((o0,()),(o1,()),()) () true uX kZ uY uZ r:=(lD n).2.2.2.2.2.2.2.2.2.2.2.2.2.2.2.2.1
theorem parser_parser_product_ok (n:Nat): ∀ (a0:Syntax) (a1:Ti) (a2:Str) (o0:kN) (r:T6),pT n a0 a1 a2 o0=some r→SP Tryz.prog 77 qz qB ((o0,()),()) (a0,a1,a2,()) true qC (lM (lK Syntax.cel) kZ) qD qE r:=(lD n).2.2.2.2.2.2.2.2.2.2.2.2.2.2.2.2.2
end Go.Abs
namespace Go.Abs
open Go.Proofs
set_option maxRecDepth 100000
set_option maxHeartbeats 4000000
@[reducible] noncomputable def Vq (n:Nat):lF TO:=qv Tryz.prog Tryz.f14 n (outU (Mt [(31,IY [.arg 0 [],.arg 1 [],.arg 2 []] lX (lT 0 (lT 1 (lT 2 kZ))) sx kZ (fun (b:Tf) (a:Unit)=>(EI n) b.1.1 b.2.1.1 b.2.2.1.1))]) (Mt [(31,IY [.arg 0 [],.arg 1 [],.arg 2 []] lY u5 sA kZ (fun (b:Tf) (a:T4)=>(EL n) a.1 b.1.1 b.2.1.1 b.2.2.1.1))]) Tryz.prog [.cell 4 29,.cell 5 3,.cell 6 30] (ty3 (lK Syntax.cel) (mK .i64) (mK .i64))) (pJ:=outUP (Mt [(31,IY [.arg 0 [],.arg 1 [],.arg 2 []] lX (lT 0 (lT 1 (lT 2 kZ))) sx kZ (fun (b:Tf) (a:Unit)=>(EI n) b.1.1 b.2.1.1 b.2.2.1.1))]) (Mt [(31,IY [.arg 0 [],.arg 1 [],.arg 2 []] lY u5 sA kZ (fun (b:Tf) (a:T4)=>(EL n) a.1 b.1.1 b.2.1.1 b.2.2.1.1))]) Tryz.prog [.cell 4 29,.cell 5 3,.cell 6 30] (ty3 (lK Syntax.cel) (mK .i64) (mK .i64))) (cp:=z6 [(33,MX (PX n)),(34,rN (mw n)),(35,IC (KS n))]) (Ab:=mU [33,34,35])
noncomputable def Vr (n:Nat):{B:Str→(List Notation)→Option TO // ∀ (a0:Str) (a1:(List Notation)),run (Vq n) [.at []] (ini [nh.enc a0,(nj Notation.row).enc a1] 23)=B a0 a1}:=by
 apply j4
 intro a0 a1
 simp (config:={maxSteps:=100000000,implicitDefEqProofs:=false}) only[go_sem,jS,jT,jO,jP,jU,jV,jX,jY,jZ,jR,jW,j3,Tryz.f14,jQ,mixed]
 exact rfl
noncomputable def XO:=fu fun n=>(Vr n).1
theorem ZN: ∀ (n:Nat) (a0:Str) (a1:(List Notation)) (r:TO),XO n a0 a1=some r→yP Tryz.prog 14 [nh.enc a0,(nj Notation.row).enc a1] (fun v=>v=(ty3 (lK Syntax.cel) (mK .i64) (mK .i64)).enc r)
 |0,_,_,_,h=>by cases h
 |n+1,a0,a1,r,h=>by
  exact fnC_runU (M:=Vq n) (t:=(ty3 (lK Syntax.cel) (mK .i64) (mK .i64))) (cr:=(Mt [(31,IY [.arg 0 [],.arg 1 [],.arg 2 []] lX (lT 0 (lT 1 (lT 2 kZ))) sx kZ (fun (b:Tf) (a:Unit)=>(EI n) b.1.1 b.2.1.1 b.2.2.1.1))])) (cp:=(Mt [(31,IY [.arg 0 [],.arg 1 [],.arg 2 []] lY u5 sA kZ (fun (b:Tf) (a:T4)=>(EL n) a.1 b.1.1 b.2.1.1 b.2.2.1.1))])) ⟨kW,kX,rz _,rA _,wh,wk,(kY (ld (fun b a r h=>(UU n) a.1 a.2.1 a.2.2.1 a.2.2.2.1 r h)) (kY (ld (fun b a r h=>(RZ n) b.1.1 r h)) (kY (ld (fun b a r h=>(PM n) b.1.1 r h)) lP))),xZ⟩ (Hv (Pj WY (fun _ _ _ _=>rfl) (by kernel_rfl) (fun b a r h=>(UH n) b.1.1 b.2.1.1 b.2.2.1.1 r h)) Kg) (Hv (Pj WZ (fun _ _ _ _=>rfl) (by kernel_rfl) (fun b a r h=>(UO n) a.1 b.1.1 b.2.1.1 b.2.2.1.1 r h)) Kg) Tryz.func14 rfl rfl ⟨nh.nb 0 _,(nj Notation.row).nb 0 _,trivial⟩ Tryz.ntmps14 Tryz.results14 rfl rfl (((Vr n).2 a0 a1).trans h)
end Go.Abs
namespace Go.Abs
open Go.Proofs
set_option maxRecDepth 100000
set_option maxHeartbeats 4000000
@[reducible] noncomputable def law26_awake_m (n:Nat):lF Bool:=qv Tryz.prog Tryz.f13 n (qT Tryz.prog [.tmp 0] pQ) (cl:=oS [(14,yR nh (nj Notation.row) (ty3 (lK Syntax.cel) (mK .i64) (mK .i64)) (XO n))])
noncomputable def Vs (n:Nat):{B:Option Bool // run (law26_awake_m n) [.at []] (ini ([]:List AV) 133)=B}:=by
 apply j4
 simp (config:={maxSteps:=100000000}) only[go_sem,jS,jT,jO,jP,jU,jV,jX,jY,jZ,jR,jW,j3,Tryz.f13,jQ,mixed]
 exact rfl
noncomputable def ED:=fu fun n=>(Vs n).1
theorem Un: ∀ (n:Nat) (r:Bool),ED n=some r→yP Tryz.prog 13 [] (fun v=>v=pQ.enc r)
 |0,_,h=>by cases h
 |n+1,r,h=>by
  exact Lc ((Vs n).2.trans h) (gd (kV (qS (ZN n)) kW) kX) Tryz.func13 trivial Tryz.ntmps13 Tryz.results13
end Go.Abs
namespace Go.Abs
open Go.Proofs
set_option maxRecDepth 100000
set_option maxHeartbeats 4000000
@[reducible] noncomputable def M7 (n:Nat):lF Bool:=qv Tryz.prog Tryz.f5 n (qT Tryz.prog [.tmp 4] pQ) (cl:=oS [(13,ent0 pQ (ED n)),(18,yR (lK Syntax.cel) (mK .i64) (mK .i64) (Cc n))]) (cd:=Pd [(13,rS (ent0 pQ (ED n))),(19,rS (yR (lK Syntax.cel) (lK Syntax.cel) pQ (yQ n))),(20,rS (yR (lK Syntax.cel) (lK Syntax.cel) pQ (QV n)))]) (AZ:=mU []) (AY:=mU [])
theorem VU (n:Nat):nP (M7 n) [0,1,1]=true:=by kernel_rfl
attribute [go_sem] VU
noncomputable def Gy (n:Nat):{B:Syntax→Syntax→Option Bool // ∀ (a0:Syntax) (a1:Syntax),run (M7 n) [.at []] (ini [(lK Syntax.cel).enc a0,(lK Syntax.cel).enc a1] 29)=B a0 a1}:=by
 apply j4
 intro a0 a1
 simp (config:={maxSteps:=100000000}) only[go_sem,jS,jT,jO,jP,jU,jV,jX,jY,jZ,jR,jW,j3,Tryz.f5,jQ,mixed]
 exact rfl
noncomputable def ER:=fu fun n=>(Gy n).1
theorem law26_ParserSame_ok: ∀ (n:Nat) (a0:Syntax) (a1:Syntax) (r:Bool),ER n a0 a1=some r→yP Tryz.prog 5 [(lK Syntax.cel).enc a0,(lK Syntax.cel).enc a1] (fun v=>v=pQ.enc r)
 |0,_,_,_,h=>by cases h
 |n+1,a0,a1,r,h=>by
  exact Lc (((Gy n).2 a0 a1).trans h) (gd (kV (ent0_ok (Un n)) (kV (qS (Sx n)) kW)) (s7 (ent0_okD (Un n)) (s7 (Ad (ZK n)) (s7 (Ad (ref26_Same_ok n)) kX)))) Tryz.func5 ⟨(lK Syntax.cel).nb 0 _,(lK Syntax.cel).nb 0 _,trivial⟩ Tryz.ntmps5 Tryz.results5
end Go.Abs
