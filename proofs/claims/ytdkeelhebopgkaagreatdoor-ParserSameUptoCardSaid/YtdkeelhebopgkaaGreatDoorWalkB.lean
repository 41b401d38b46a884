/- A part of the proof: what the functions compute. -/
import Derived.Test.YtdkeelhebopgkaaGreatDoorDataA
import Derived.Test.YtdkeelhebopgkaaGreatDoorExtA
import Derived.Test.YtdkeelhebopgkaaGreatDoorWalkA
set_option linter.all false
open Nat renaming reduceLeDiff → jj,reduceEqDiff → jk,reduceAdd → jo,reduceSub → jq,reduceBEq → jr,reduceMul → jt,reduceLT → jv
open Option renaming getD_some → jl
open Int renaming reduceToNat → jm,reduceBEq → ju,reduceLE → jw,reduceLT → jx,reduceEq → jy
open Subtype renaming mk → jz
open Go.Abs.AV renaming any → qA
namespace Go.Abs
open Go.Proofs
set_option maxRecDepth 100000
set_option maxHeartbeats 4000000
@[reducible] noncomputable def Yd (n:Nat):lF Int:=qv Tryz.prog Tryz.f222 n (qT Tryz.prog [.tmp 4] (mK .i64)) (cl:=oS [(244,qR (lK Notation.cel) pQ (FP n)),(245,qR (lK Notation.cel) pQ (HV n))])
noncomputable def Rq (n:Nat):{B:Notation→Int→Option Int // ∀ (a0:Notation) (a1:Int),run (Yd n) [.at []] (ini [(lK Notation.cel).enc a0,(mK .i64).enc a1] 51)=B a0 a1}:=by
 apply jz
 intro a0 a1
 simp (config:={maxSteps:=100000000}) only[go_sem,jo,jq,jj,jk,jr,jt,jv,jw,jx,jm,ju,jy,Tryz.f222,jl,mixed]
 exact rfl
noncomputable def OA:=fu fun n=>(Rq n).1
theorem PA: ∀ (n:Nat) (a0:Notation) (a1:Int) (r:Int),OA n a0 a1=some r→yP Tryz.prog 222 [(lK Notation.cel).enc a0,(mK .i64).enc a1] (fun v=>v=(mK .i64).enc r)
 |0,_,_,_,h=>by cases h
 |n+1,a0,a1,r,h=>by
  exact Lc (((Rq n).2 a0 a1).trans h) (gd (kV (pH (EK n)) (kV (pH (HW n)) kW)) kX) Tryz.func222 ⟨(lK Notation.cel).nb 0 _,(mK .i64).nb 0 _,trivial⟩ Tryz.ntmps222 Tryz.results222
noncomputable def FU:DO:=⟨[(6,1,true)],[],(nr (zA::zT (tyF 165)::zK::ow (nr (zT (nj Token.row)::zK::zK::ow (nr (nr (zA::zA::zA::[]))))))),[oT kN.cel,oA nq],none,none⟩
@[reducible] noncomputable def xe (n:Nat):lF (Tb×To):=qv Tryz.prog Tryz.f126 n (outG Tryz.prog [.tmp 4] (wP (Ay kN.cel) vc) (NI (nj nq) Ke) 1) (cl:=oS [(165,yR (lK Token.cel) nh pQ (GR n)),(166,yR nh nh pQ (strings_Contains n))]) (wU:=vR [([0,1,0,1,1,1,1],FU)])
attribute [go_sem] FU
noncomputable abbrev AH (v0:List Token) (v1:Int) (v2:Int) (o0:kN) (r1:List Str) (c1:Nat):AState:=⟨(nQ (qA:: .func (.func 165) [] []:: .acc 1 c1::oJ (nQ (.l5 false 3 (mp Token.cells v0):: .int .i64 v1:: .int .i64 v2::oJ (nQ (nQ (qA::qA::qA::[]))))))),[.cells (kN.cells o0),.acc true 1 (mp mo r1)],1,[]⟩
abbrev vW:=(List Token)→Int→Int→kN→(List Str)→Option (Tb×To)
abbrev AI (n:Nat) (K:List Kt) (Z:vW):Prop:= ∀ (v0:List Token) (v1:Int) (v2:Int) (o0:kN) (r1:List Str) (c1:Nat),c1=r1.length→run (xe n) K (AH v0 v1 v2 o0 r1 c1)=Z v0 v1 v2 o0 r1
attribute [go_sem] AH
noncomputable def AJ (n:Nat):{B:vW→vW // ∀m X0,AI n (.lq m [0,1,0,1,1,1,1]::[.blk 0,.cut [1,1,1,1,1],.at [1,1,1,1,1]]) X0→ ∀ (v0:List Token) (v1:Int) (v2:Int) (o0:kN) (r1:List Str),run (xe n) (.at [0,0,1,0,1,1,1,1]:: .lp m [0,1,0,1,1,1,1]::[.blk 0,.cut [1,1,1,1,1],.at [1,1,1,1,1]]) (AH v0 v1 v2 o0 r1 (r1.length))=B X0 v0 v1 v2 o0 r1}:=by
 apply jz
 intro m X0 ih v0 v1 v2 o0 r1
 simp (config:={maxSteps:=100000000}) only[go_sem,jo,jq,jj,jk,jr,jt,jv,jw,jx,jm,ju,jy,Tryz.f126,jl,mixed,ih]
 exact rfl
noncomputable def AK (n:Nat):Nat→vW:=FH ((AJ n).1)
theorem ZF {n:Nat} {m:Nat}:AK n (m+1)=(AJ n).1 (AK n m):=rfl
theorem Ma (n:Nat) (m:Nat):AI n (.lq m [0,1,0,1,1,1,1]::[.blk 0,.cut [1,1,1,1,1],.at [1,1,1,1,1]]) (AK n m):=
 mB (G:=fun m Z=>AI n (.lq m [0,1,0,1,1,1,1]::[.blk 0,.cut [1,1,1,1,1],.at [1,1,1,1,1]]) Z) (fun _ _ _ _ _ _ _=>k7) (fun m _ ih=>by
  intro v0 v1 v2 o0 r1 c1 ec1
  subst ec1
  rw[k8]
  exact (AJ n).2 _ _ ih v0 v1 v2 o0 r1) m
noncomputable def GX (n:Nat):{B:kN→Int→Option (Tb×To) // ∀ (a0:kN) (a1:Int),run (xe n) [.at []] (ini ((Od 0 (XB (mK .i64) L3)).enc (a0,()) (a1,())) 57 ((wP (Ay kN.cel) vc).enc (a0,())))=B a0 a1}:=by
 apply jz
 intro a0 a1
 simp (config:={maxSteps:=100000000}) only[go_sem,jo,jq,jj,jk,jr,jt,jv,jw,jx,jm,ju,jy,Tryz.f126,jl,mixed,Ma n]
 exact rfl
noncomputable def Jc:=fu fun n=>(GX n).1
theorem OB: ∀ (n:Nat) (a0:kN) (a1:Int) (r:(Tb×To)),Jc n a0 a1=some r→ZW Tryz.prog 126 ((Od 0 (XB (mK .i64) L3)).enc (a0,()) (a1,())) ((wP (Ay kN.cel) vc).enc (a0,())) (fun o H'=>o= .ret (s9 ((NI (nj nq) Ke).enc r.1 r.2))∧H'=(wP (Ay kN.cel) vc).enc r.1)
 |0,_,_,_,h=>by cases h
 |n+1,a0,a1,r,h=>by
  exact Dx (M:=xe n) ⟨(kV (qS (Mz n)) (kV (qS (Fe n)) kW)),kX,rz _,rA _,wh,wk,yz,xZ⟩ Tryz.func126 rfl rfl (by simp only[go_sem,jo,jq,jj,jk,jr,jt,jv,jw,jx,jm,ju,jy]) ((wP (Ay kN.cel) vc).nb _ _) Tryz.ntmps126 Tryz.results126 (fun σ hs=>Yp hs) (((GX n).2 a0 a1).trans h)
@[reducible] noncomputable def parser_same_m (n:Nat):lF Bool:=qv Tryz.prog Tryz.f43 n (qT Tryz.prog [.tmp 4] pQ) (cl:=oS [(83,yR (nj kR.row) (nj kR.row) pQ (yF n))])
noncomputable def OC (n:Nat):{B:kO→kO→Option Bool // ∀ (a0:kO) (a1:kO),run (parser_same_m n) [.at []] (ini [(lK kO.cel).enc a0,(lK kO.cel).enc a1] 17)=B a0 a1}:=by
 apply jz
 intro a0 a1
 simp (config:={maxSteps:=100000000}) only[go_sem,jo,jq,jj,jk,jr,jt,jv,jw,jx,jm,ju,jy,Tryz.f43,jl,mixed]
 exact rfl
noncomputable def NT:=fu fun n=>(OC n).1
theorem ZG: ∀ (n:Nat) (a0:kO) (a1:kO) (r:Bool),NT n a0 a1=some r→yP Tryz.prog 43 [(lK kO.cel).enc a0,(lK kO.cel).enc a1] (fun v=>v=pQ.enc r)
 |0,_,_,_,h=>by cases h
 |n+1,a0,a1,r,h=>by
  exact Lc (((OC n).2 a0 a1).trans h) (gd (kV (qS (Nl n)) kW) kX) Tryz.func43 ⟨(lK kO.cel).nb 0 _,(lK kO.cel).nb 0 _,trivial⟩ Tryz.ntmps43 Tryz.results43
noncomputable def SN:DO:=⟨[],[],(zA::zA::zK::zK::zK::nr (zA::zA::zK::DR (DR (nr [])))),[oT Syntax.cel,oT Syntax.cel],none,none⟩
noncomputable def SO:DO:=⟨[],[],(zA::zA::zK::zK::zK::zA::zA::zK::zK::zK::zK::DR (DR (nr (zA::[])))),[oT Syntax.cel,oT Syntax.cel,oT kO.cel,oT kO.cel],none,none⟩
noncomputable def SQ:DO:=⟨[],[],(zA::zA::zK::zK::zK::zA::zA::zK::DR (DR (nr (nr [])))),[oT Syntax.cel,oT Syntax.cel],none,none⟩
@[reducible] noncomputable def mM (X:Syntax→Syntax→Bool→Option Bool) (n:Nat):lF Bool:=qv Tryz.prog Tryz.f16 n (qT Tryz.prog [.tmp 6] pQ) (cl:=oS [(40,yR (nj nq) (nj nq) pQ (Gc n))]) (cd:=Pd [(16,rS (Sm (lK Syntax.cel) (lK Syntax.cel) pQ pQ X))]) (wU:=vR [([0,1,0,1,1,1],SN),([0,1,1,1,0,0,1,0,0,1,0,1,1],SO),([0,1,0,1,1],SQ)]) (AZ:=mU []) (AY:=mU [])
theorem ref26_Equal_d (X:Syntax→Syntax→Bool→Option Bool) (n:Nat):nP (mM X n) [0,0,0,1,0,0,1,0,1,1]=true∧nP (mM X n) [0,0,0,1,0,0,1,0,1,1,1]=true∧nP (mM X n) [0,0,0,1,0,0,1,1,1,0,0,1,0,0,1,0,1,1]=true:=⟨by kernel_rfl,by kernel_rfl,by kernel_rfl⟩
theorem ref26_Equal_o (X:Syntax→Syntax→Bool→Option Bool) (n:Nat):lS (mM X n) [0,0,0,1,0,0,1,0,1,1] 1 12=true∧lS (mM X n) [0,0,0,1,0,0,1,0,1,1] 3 12=true∧lS (mM X n) [0,0,0,1,0,0,1,0,1,1] 4 12=true∧lS (mM X n) [0,0,0,1,0,0,1,0,1,1] 10 12=true∧lS (mM X n) [0,0,0,1,0,0,1,0,1,1] 11 12=true∧lS (mM X n) [0,0,0,1,0,0,1,0,1,1] 1 13=true∧lS (mM X n) [0,0,0,1,0,0,1,0,1,1] 3 13=true∧lS (mM X n) [0,0,0,1,0,0,1,0,1,1] 4 13=true∧lS (mM X n) [0,0,0,1,0,0,1,0,1,1] 6 13=true∧lS (mM X n) [0,0,0,1,0,0,1,0,1,1] 8 13=true∧lS (mM X n) [0,0,0,1,0,0,1,0,1,1] 9 13=true∧lS (mM X n) [0,0,0,1,0,0,1,0,1,1] 10 13=true∧lS (mM X n) [0,0,0,1,0,0,1,0,1,1] 11 13=true∧lS (mM X n) [0,0,0,1,0,0,1,0,1,1] 12 13=true∧lS (mM X n) [0,0,0,1,0,0,1,0,1,1] 10 11=true:=⟨by kernel_rfl,by kernel_rfl,by kernel_rfl,by kernel_rfl,by kernel_rfl,by kernel_rfl,by kernel_rfl,by kernel_rfl,by kernel_rfl,by kernel_rfl,by kernel_rfl,by kernel_rfl,by kernel_rfl,by kernel_rfl,by kernel_rfl⟩
attribute [go_sem] ref26_Equal_d ref26_Equal_o SN SO SQ
noncomputable abbrev SR (v0:Bool) (v1:Int) (o0:Syntax) (o1:Syntax):AState:=⟨(qA::qA:: .bool v0:: .ptr 0 0:: .ptr 1 0::nQ (qA::qA:: .int .i64 v1::DQ (DQ (nQ [])))),[.cells (Syntax.cells o0),.cells (Syntax.cells o1)],0,[]⟩
abbrev Ig:=Bool→Int→Syntax→Syntax→Option Bool
abbrev Ih (X:Syntax→Syntax→Bool→Option Bool) (n:Nat) (K:List Kt) (Z:Ig):Prop:= ∀ (v0:Bool) (v1:Int) (o0:Syntax) (o1:Syntax),run (mM X n) K (SR v0 v1 o0 o1)=Z v0 v1 o0 o1
noncomputable abbrev SS (v0:Bool) (v1:Int) (v2:Int) (o0:Syntax) (o1:Syntax) (o2:kO) (o3:kO):AState:=⟨(qA::qA:: .bool v0:: .ptr 0 0:: .ptr 1 0::qA::qA:: .int .i64 v1:: .ptr 2 0:: .ptr 3 0:: .int .i64 v2::DQ (DQ (nQ (qA::[])))),[.cells (Syntax.cells o0),.cells (Syntax.cells o1),.cells (kO.cells o2),.cells (kO.cells o3)],0,[]⟩
abbrev Ef (m3:Nat):List Kt:=[.blk 2,.blk 1,.cut [1,1,0,0,1,0,1,1],.at [1,1,0,0,1,0,1,1],.lp m3 [0,1,0,1,1],.blk 0,.cut [1,1,1],.at [1,1,1]]
abbrev Ii:=Bool→Int→Int→Syntax→Syntax→kO→kO→Option Bool
abbrev Ij (X:Syntax→Syntax→Bool→Option Bool) (n:Nat) (K:List Kt) (Z:Ii):Prop:= ∀ (v0:Bool) (v1:Int) (v2:Int) (o0:Syntax) (o1:Syntax) (o2:kO) (o3:kO),run (mM X n) K (SS v0 v1 v2 o0 o1 o2 o3)=Z v0 v1 v2 o0 o1 o2 o3
noncomputable abbrev SU (v0:Bool) (v1:Int) (o0:Syntax) (o1:Syntax):AState:=⟨(qA::qA:: .bool v0:: .ptr 0 0:: .ptr 1 0::qA::qA:: .int .i64 v1::DQ (DQ (nQ (nQ [])))),[.cells (Syntax.cells o0),.cells (Syntax.cells o1)],0,[]⟩
abbrev zd:=Bool→Int→Syntax→Syntax→Option Bool
abbrev Bw (X:Syntax→Syntax→Bool→Option Bool) (n:Nat) (K:List Kt) (Z:zd):Prop:= ∀ (v0:Bool) (v1:Int) (o0:Syntax) (o1:Syntax),run (mM X n) K (SU v0 v1 o0 o1)=Z v0 v1 o0 o1
attribute [go_sem] SR SS Ef SU
noncomputable def Eg (X:Syntax→Syntax→Bool→Option Bool) (n:Nat):{B:Ig→Ig // ∀m X0,Ih X n (.lq m [0,1,0,1,1,1]::[.blk 4,.cut [1,1,1,1],.at [1,1,1,1]]) X0→Ih X n (.at [0,0,1,0,1,1,1]:: .lp m [0,1,0,1,1,1]::[.blk 4,.cut [1,1,1,1],.at [1,1,1,1]]) (B X0)}:=by
 apply jz
 intro m X0 ih v0 v1 o0 o1
 simp (config:={maxSteps:=100000000}) only[go_sem,jo,jq,jj,jk,jr,jt,jv,jw,jx,jm,ju,jy,Tryz.f16,jl,mixed,ih]
 exact rfl
noncomputable def Bx (X:Syntax→Syntax→Bool→Option Bool) (n:Nat):Nat→Ig:=FH ((Eg X n).1)
theorem PB (X:Syntax→Syntax→Bool→Option Bool) {n:Nat} {m:Nat}:Bx X n (m+1)=(Eg X n).1 (Bx X n m):=rfl
theorem Ik (X:Syntax→Syntax→Bool→Option Bool) (n:Nat) (m:Nat):Ih X n (.lq m [0,1,0,1,1,1]::[.blk 4,.cut [1,1,1,1],.at [1,1,1,1]]) (Bx X n m):=
 mB (G:=fun m Z=>Ih X n (.lq m [0,1,0,1,1,1]::[.blk 4,.cut [1,1,1,1],.at [1,1,1,1]]) Z) (fun _ _ _ _=>k7) (fun m _ ih v0 v1 o0 o1=>k8.trans ((Eg X n).2 _ _ ih v0 v1 o0 o1)) m
noncomputable def Eh (X:Syntax→Syntax→Bool→Option Bool) (n:Nat):{B:zd→Ii→Ii // ∀m3 X3 m X0,Bw X n (.lq m3 [0,1,0,1,1]::[.blk 0,.cut [1,1,1],.at [1,1,1]]) X3→Ij X n (.lq m [0,1,1,1,0,0,1,0,0,1,0,1,1]::Ef m3) X0→Ij X n (.at [0,0,1,1,1,0,0,1,0,0,1,0,1,1]:: .lp m [0,1,1,1,0,0,1,0,0,1,0,1,1]::Ef m3) (B X3 X0)}:=by
 apply jz
 intro m3 X3 m X0 h3 ih v0 v1 v2 o0 o1 o2 o3
 simp (config:={maxSteps:=100000000}) only[go_sem,jo,jq,jj,jk,jr,jt,jv,jw,jx,jm,ju,jy,Tryz.f16,jl,mixed,Ik X n,h3,ih]
 exact rfl
noncomputable def Il (X:Syntax→Syntax→Bool→Option Bool) (n:Nat) (X3:zd):Nat→Ii:=FH ((Eh X n).1 X3)
theorem PC (X:Syntax→Syntax→Bool→Option Bool) {n:Nat} (X3:zd) {m:Nat}:Il X n X3 (m+1)=(Eh X n).1 X3 (Il X n X3 m):=rfl
theorem WB (X:Syntax→Syntax→Bool→Option Bool) (n:Nat) {m3:Nat} {X3} (h3:Bw X n (.lq m3 [0,1,0,1,1]::[.blk 0,.cut [1,1,1],.at [1,1,1]]) X3) (m:Nat):Ij X n (.lq m [0,1,1,1,0,0,1,0,0,1,0,1,1]::Ef m3) (Il X n X3 m):=
 mB (G:=fun m Z=>Ij X n (.lq m [0,1,1,1,0,0,1,0,0,1,0,1,1]::Ef m3) Z) (fun _ _ _ _ _ _ _=>k7) (fun m _ ih v0 v1 v2 o0 o1 o2 o3=>k8.trans ((Eh X n).2 _ _ _ _ h3 ih v0 v1 v2 o0 o1 o2 o3)) m
noncomputable def Ei (X:Syntax→Syntax→Bool→Option Bool) (n:Nat):{B:zd→zd // ∀m X0,Bw X n (.lq m [0,1,0,1,1]::[.blk 0,.cut [1,1,1],.at [1,1,1]]) X0→Bw X n (.at [0,0,1,0,1,1]:: .lp m [0,1,0,1,1]::[.blk 0,.cut [1,1,1],.at [1,1,1]]) (B X0)}:=by
 apply jz
 intro m X0 ih v0 v1 o0 o1
 simp (config:={maxSteps:=100000000}) only[go_sem,jo,jq,jj,jk,jr,jt,jv,jw,jx,jm,ju,jy,Tryz.f16,jl,mixed,Ik X n,WB X n ih,ih]
 exact rfl
noncomputable def wu (X:Syntax→Syntax→Bool→Option Bool) (n:Nat):Nat→zd:=FH ((Ei X n).1)
theorem PD (X:Syntax→Syntax→Bool→Option Bool) {n:Nat} {m:Nat}:wu X n (m+1)=(Ei X n).1 (wu X n m):=rfl
theorem WC (X:Syntax→Syntax→Bool→Option Bool) (n:Nat) (m:Nat):Bw X n (.lq m [0,1,0,1,1]::[.blk 0,.cut [1,1,1],.at [1,1,1]]) (wu X n m):=
 mB (G:=fun m Z=>Bw X n (.lq m [0,1,0,1,1]::[.blk 0,.cut [1,1,1],.at [1,1,1]]) Z) (fun _ _ _ _=>k7) (fun m _ ih v0 v1 o0 o1=>k8.trans ((Ei X n).2 _ _ ih v0 v1 o0 o1)) m
noncomputable def OD (X:Syntax→Syntax→Bool→Option Bool) (n:Nat):{B:Syntax→Syntax→Bool→Option Bool // ∀ (a0:Syntax) (a1:Syntax) (a2:Bool),run (mM X n) [.at []] (ini [(lK Syntax.cel).enc a0,(lK Syntax.cel).enc a1,pQ.enc a2] 144)=B a0 a1 a2}:=by
 apply jz
 intro a0 a1 a2
 simp (config:={maxSteps:=100000000}) only[go_sem,jo,jq,jj,jk,jr,jt,jv,jw,jx,jm,ju,jy,Tryz.f16,jl,mixed,Ik X n,WC X n]
 exact rfl
noncomputable def rI:Nat→Syntax→Syntax→Bool→Option Bool
 |0,_,_,_=>none
 |n+1,a0,a1,a2=>(OD (rI n) n).1 a0 a1 a2
theorem SV: ∀ (n:Nat) (a0:Syntax) (a1:Syntax) (a2:Bool) (r:Bool),rI n a0 a1 a2=some r→yP Tryz.prog 16 [(lK Syntax.cel).enc a0,(lK Syntax.cel).enc a1,pQ.enc a2] (fun v=>v=pQ.enc r)
 |0,_,_,_,_,h=>by cases h
 |n+1,a0,a1,a2,r,h=>by
  have ZH:=SV n
  exact Lc (((OD (rI n) n).2 a0 a1 a2).trans h) (gd (kV (qS (VK n)) kW) (s7 (Mq (ZH)) kX)) Tryz.func16 ⟨(lK Syntax.cel).nb 0 _,(lK Syntax.cel).nb 0 _,pQ.nb 0 _,trivial⟩ Tryz.ntmps16 Tryz.results16
end Go.Abs
namespace Go.Abs
open Go.Proofs
set_option maxRecDepth 100000
set_option maxHeartbeats 4000000
noncomputable def JS (F:Option TX):=entX [] nM kZ (lG Gr nM) (u9 0 kZ) (fun (b:Unit) (a:Unit)=>F)
attribute [go_sem] JS
@[reducible] noncomputable def PE (n:Nat):lF TX:=qv Tryz.prog Tryz.f148 n (EH Tryz.prog [.tmp 0] [.arg 0 []] [] 0 (lG Gr nM) (u9 0 kZ)) (cl:=oS [(183,qR nh (tyK1 207 (zZ cS)) (NL n)),(207,I7 (LI n))]) (js:=tabJ [([0,1,0,1,1],[])])
theorem VP (n:Nat):lkM (PE n) [0,1,0,1,1]=l9:=rfl
attribute [go_sem] yA VP
noncomputable def PF (n:Nat):{B:Option TX // run (PE n) [.at []] (s8 kZ nM () () 9)=B}:=by
 apply jz
 simp (config:={maxSteps:=100000000}) only[go_sem,jo,jq,jj,jk,jr,jt,jv,jw,jx,jm,ju,jy,Tryz.f148,jl,mixed]
 exact rfl
noncomputable def MF:=fu fun n=>(PF n).1
theorem NU: ∀ (n:Nat) (r:TX),MF n=some r→SG Tryz.prog 148 kZ nM () () (lG Gr nM) (u9 0 kZ) r
 |0,_,h=>by cases h
 |n+1,r,h=>by
  exact okG ((PF n).2.trans h) (gd (kV (pH (Sy n)) (kV (Dy (fun b a r h=>(QE n) a.1 b.2.2.1 r h)) kW)) kX) Tryz.func148 Tryz.ntmps148 Tryz.results148
@[reducible] noncomputable def QK (n:Nat):lF Bool:=qv Tryz.prog Tryz.f188 n (qT Tryz.prog [.tmp 4] pQ) (cl:=oS [(211,yR nh (mK .i32) (mK .i64) (H9 n))])
noncomputable def Im (n:Nat):{B:Str→Int→Option Bool // ∀ (a0:Str) (a1:Int),run (QK n) [.at []] (ini [nh.enc a0,(mK .i32).enc a1] 9)=B a0 a1}:=by
 apply jz
 intro a0 a1
 simp (config:={maxSteps:=100000000}) only[go_sem,jo,jq,jj,jk,jr,jt,jv,jw,jx,jm,ju,jy,Tryz.f188,jl,mixed]
 exact rfl
noncomputable def KI:=fu fun n=>(Im n).1
theorem PG: ∀ (n:Nat) (a0:Str) (a1:Int) (r:Bool),KI n a0 a1=some r→yP Tryz.prog 188 [nh.enc a0,(mK .i32).enc a1] (fun v=>v=pQ.enc r)
 |0,_,_,_,h=>by cases h
 |n+1,a0,a1,r,h=>by
  exact Lc (((Im n).2 a0 a1).trans h) (gd (kV (qS (KB n)) kW) kX) Tryz.func188 ⟨nh.nb 0 _,(mK .i32).nb 0 _,trivial⟩ Tryz.ntmps188 Tryz.results188
noncomputable def Jd:DO:=⟨[],[],(zK::nr (zK::DR (ow (nr (nr (nr [])))))),[oC [zK,zK,zK,zK,zK],oK,oK,oK],none,none⟩
noncomputable def Je:DO:=⟨[],[],(zK::nr (zK::DR (ow (nr (nr (nr [])))))),[oC [zK,zK,zK,zK,zK],oK,oK,oK],none,none⟩
noncomputable def zm:OL Ta:=(lG (mT (lM nh (lM (mK .i64) (u9 1 (u9 2 (u9 3 kZ)))))) (lG Gr (lG Gr (lG Gr nM))))
noncomputable def zn:OL Ta:=(lG (mT (lM nh (lM (mK .i64) (u9 1 (u9 2 (u9 3 kZ)))))) (lG Gr (lG Gr (lG Gr nM))))
noncomputable def zu:AL TR:=(lM (mK .i64) (lM (mK .i64) (lM (mK .i64) kZ)))
attribute [go_sem] zm zn zu
noncomputable def KJ (F:Str→Int→T5→T5→T5→Option Tj):=entX [.arg 0 [],.obj 0 2 [],.obj 0 3 [],.obj 0 4 []] zm (lT 0 kZ) zn zu (fun (b:Ta) (a:Unit)=>F b.1.1 b.1.2.1 b.2.1 b.2.2.1 b.2.2.2.1)
attribute [go_sem] KJ
@[reducible] noncomputable def wv (n:Nat):lF Tj:=qv Tryz.prog Tryz.f152 n (EH Tryz.prog [.tmp 2,.tmp 3,.tmp 4] [] [0,1,2,3] 4 zn zu) (cl:=oS [(156,qR (mK .u8) (mK .i64) (GL n)),(184,qR (mK .u8) pQ (L7 n))]) (wU:=vR [([0,0,0,0,0,0,1,1],Jd),([0,0,1,1],Je)]) (AZ:=mU []) (AY:=mU [])
theorem SW (n:Nat):nP (wv n) [0,0,1,0,0,1,1,1,1]=true∧nP (wv n) [0,1,1,1]=true:=⟨by kernel_rfl,by kernel_rfl⟩
attribute [go_sem] SW Jd Je
noncomputable abbrev Jf (v0:Int) (v1:Str) (v2:Int) (r1:List (Str×Bool)) (r2:List (Str×Bool)) (r3:List (Str×Bool)):AState:=⟨(.ptr 0 0::nQ (.int .i64 v0::DQ (oJ (nQ (nQ (nQ [])))))),[.cells [.str (sb v1),.int .i64 v2,.map 1,.map 2,.map 3],.map (mp mcB r1),.map (mp mcB r2),.map (mp mcB r3)],4,[]⟩
abbrev vu (m2:Nat):List Kt:=[.blk 2,.cut [1,0,0,0,0,1,1],.at [1,0,0,0,0,1,1],.blk 1,.lp m2 [0,0,1,1],.blk 0,.cut [1,1,1],.at [1,1,1]]
abbrev zw:=Int→Str→Int→T5→T5→T5→Option Tj
abbrev zx (n:Nat) (K:List Kt) (Z:zw):Prop:= ∀ (v0:Int) (v1:Str) (v2:Int) (r1:List (Str×Bool)) (r2:List (Str×Bool)) (r3:List (Str×Bool)),run (wv n) K (Jf v0 v1 v2 r1 r2 r3)=Z v0 v1 v2 r1 r2 r3
noncomputable abbrev Jg (v0:Int) (v1:Str) (v2:Int) (r1:List (Str×Bool)) (r2:List (Str×Bool)) (r3:List (Str×Bool)):AState:=⟨(.ptr 0 0::nQ (.int .i64 v0::DQ (oJ (nQ (nQ (nQ [])))))),[.cells [.str (sb v1),.int .i64 v2,.map 1,.map 2,.map 3],.map (mp mcB r1),.map (mp mcB r2),.map (mp mcB r3)],4,[]⟩
abbrev qK:=Int→Str→Int→T5→T5→T5→Option Tj
abbrev sK (n:Nat) (K:List Kt) (Z:qK):Prop:= ∀ (v0:Int) (v1:Str) (v2:Int) (r1:List (Str×Bool)) (r2:List (Str×Bool)) (r3:List (Str×Bool)),run (wv n) K (Jg v0 v1 v2 r1 r2 r3)=Z v0 v1 v2 r1 r2 r3
attribute [go_sem] Jf vu Jg
noncomputable def Da (n:Nat):{B:qK→zw→zw // ∀m2 X2 m X0,sK n (.lq m2 [0,0,1,1]::[.blk 0,.cut [1,1,1],.at [1,1,1]]) X2→zx n (.lq m [0,0,0,0,0,0,1,1]::vu m2) X0→zx n (.at [0,0,0,0,0,0,0,1,1]:: .lp m [0,0,0,0,0,0,1,1]::vu m2) (B X2 X0)}:=by
 apply jz
 intro m2 X2 m X0 h2 ih v0 v1 v2 r1 r2 r3
 simp (config:={maxSteps:=100000000}) only[go_sem,jo,jq,jj,jk,jr,jt,jv,jw,jx,jm,ju,jy,Tryz.f152,jl,mixed,h2,ih]
 exact rfl
noncomputable def Db (n:Nat) (X2:qK):Nat→zw:=FH ((Da n).1 X2)
theorem lexer_scanner_word_l1_s {n:Nat} (X2:qK) {m:Nat}:Db n X2 (m+1)=(Da n).1 X2 (Db n X2 m):=rfl
theorem OE (n:Nat) {m2:Nat} {X2} (h2:sK n (.lq m2 [0,0,1,1]::[.blk 0,.cut [1,1,1],.at [1,1,1]]) X2) (m:Nat):zx n (.lq m [0,0,0,0,0,0,1,1]::vu m2) (Db n X2 m):=
 mB (G:=fun m Z=>zx n (.lq m [0,0,0,0,0,0,1,1]::vu m2) Z) (fun _ _ _ _ _ _=>k7) (fun m _ ih v0 v1 v2 r1 r2 r3=>k8.trans ((Da n).2 _ _ _ _ h2 ih v0 v1 v2 r1 r2 r3)) m
noncomputable def Dc (n:Nat):{B:qK→qK // ∀m X0,sK n (.lq m [0,0,1,1]::[.blk 0,.cut [1,1,1],.at [1,1,1]]) X0→sK n (.at [0,0,0,1,1]:: .lp m [0,0,1,1]::[.blk 0,.cut [1,1,1],.at [1,1,1]]) (B X0)}:=by
 apply jz
 intro m X0 ih v0 v1 v2 r1 r2 r3
 simp (config:={maxSteps:=100000000}) only[go_sem,jo,jq,jj,jk,jr,jt,jv,jw,jx,jm,ju,jy,Tryz.f152,jl,mixed,OE n ih,ih]
 exact rfl
noncomputable def Dd (n:Nat):Nat→qK:=FH ((Dc n).1)
theorem lexer_scanner_word_l2_s {n:Nat} {m:Nat}:Dd n (m+1)=(Dc n).1 (Dd n m):=rfl
theorem OF (n:Nat) (m:Nat):sK n (.lq m [0,0,1,1]::[.blk 0,.cut [1,1,1],.at [1,1,1]]) (Dd n m):=
 mB (G:=fun m Z=>sK n (.lq m [0,0,1,1]::[.blk 0,.cut [1,1,1],.at [1,1,1]]) Z) (fun _ _ _ _ _ _=>k7) (fun m _ ih v0 v1 v2 r1 r2 r3=>k8.trans ((Dc n).2 _ _ ih v0 v1 v2 r1 r2 r3)) m
noncomputable def KK (n:Nat):{B:Str→Int→T5→T5→T5→Option Tj // ∀ (o0:Str) (o1:Int) (o2:T5) (o3:T5) (o4:T5),run (wv n) [.at []] (s8 (lT 0 kZ) zm ((o0,o1,()),o2,o3,o4,()) () 98)=B o0 o1 o2 o3 o4}:=by
 apply jz
 intro o0 o1 o2 o3 o4
 simp (config:={maxSteps:=100000000}) only[go_sem,jo,jq,jj,jk,jr,jt,jv,jw,jx,jm,ju,jy,Tryz.f152,jl,mixed,OF n]
 exact rfl
noncomputable def MG:=fu fun n=>(KK n).1
theorem RI: ∀ (n:Nat) (o0:Str) (o1:Int) (o2:T5) (o3:T5) (o4:T5) (r:Tj),MG n o0 o1 o2 o3 o4=some r→SG Tryz.prog 152 (lT 0 kZ) zm ((o0,o1,()),o2,o3,o4,()) () zn zu r
 |0,_,_,_,_,_,_,h=>by cases h
 |n+1,o0,o1,o2,o3,o4,r,h=>by
  exact okG (((KK n).2 o0 o1 o2 o3 o4).trans h) (gd (kV (pH (D2 n)) (kV (pH (Lh n)) kW)) kX) Tryz.func152 Tryz.ntmps152 Tryz.results152
noncomputable def GY:DO:=⟨[],[],(zK::nr (zK::DR (nr (nr (nr (zA::zA::[])))))),[oC [zK,zK,zK,zK,zK],oK,oK,oK],none,none⟩
noncomputable def xg:OL Ta:=(lG (mT (lM nh (lM (mK .i64) (u9 1 (u9 2 (u9 3 kZ)))))) (lG Gr (lG Gr (lG Gr nM))))
noncomputable def xh:OL Ta:=(lG (mT (lM nh (lM (mK .i64) (u9 1 (u9 2 (u9 3 kZ)))))) (lG Gr (lG Gr (lG Gr nM))))
noncomputable def xj:AL TR:=(lM (mK .i64) (lM (mK .i64) (lM (mK .i64) kZ)))
attribute [go_sem] xg xh xj
noncomputable def Io (F:Str→Int→T5→T5→T5→Option Tj):=entX [.arg 0 [],.obj 0 2 [],.obj 0 3 [],.obj 0 4 []] xg (lT 0 kZ) xh xj (fun (b:Ta) (a:Unit)=>F b.1.1 b.1.2.1 b.2.1 b.2.2.1 b.2.2.2.1)
attribute [go_sem] Io
@[reducible] noncomputable def uw (n:Nat):lF Tj:=qv Tryz.prog Tryz.f153 n (EH Tryz.prog [.tmp 2,.tmp 3,.tmp 4] [] [0,1,2,3] 4 xh xj) (cl:=oS [(156,qR (mK .u8) (mK .i64) (GL n)),(184,qR (mK .u8) pQ (L7 n))]) (wU:=vR [([0,0,1,1],GY)]) (AZ:=mU []) (AY:=mU [])
theorem QL (n:Nat):nP (uw n) [0,0,1,0,0,1,1,1]=true∧nP (uw n) [0,0,1,1,1,0,0,1,1,1]=true∧nP (uw n) [0,1,1,0,0,1,1,1]=true:=⟨by kernel_rfl,by kernel_rfl,by kernel_rfl⟩
attribute [go_sem] QL GY
noncomputable abbrev GZ (v0:Int) (v1:Str) (v2:Int) (r1:List (Str×Bool)) (r2:List (Str×Bool)) (r3:List (Str×Bool)):AState:=⟨(.ptr 0 0::nQ (.int .i64 v0::DQ (nQ (nQ (nQ (qA::qA::[])))))),[.cells [.str (sb v1),.int .i64 v2,.map 1,.map 2,.map 3],.map (mp mcB r1),.map (mp mcB r2),.map (mp mcB r3)],4,[]⟩
abbrev xk:=Int→Str→Int→T5→T5→T5→Option Tj
abbrev xl (n:Nat) (K:List Kt) (Z:xk):Prop:= ∀ (v0:Int) (v1:Str) (v2:Int) (r1:List (Str×Bool)) (r2:List (Str×Bool)) (r3:List (Str×Bool)),run (uw n) K (GZ v0 v1 v2 r1 r2 r3)=Z v0 v1 v2 r1 r2 r3
attribute [go_sem] GZ
noncomputable def By (n:Nat):{B:xk→xk // ∀m X0,xl n (.lq m [0,0,1,1]::[.blk 0,.cut [1,1,1],.at [1,1,1]]) X0→xl n (.at [0,0,0,1,1]:: .lp m [0,0,1,1]::[.blk 0,.cut [1,1,1],.at [1,1,1]]) (B X0)}:=by
 apply jz
 intro m X0 ih v0 v1 v2 r1 r2 r3
 simp (config:={maxSteps:=100000000}) only[go_sem,jo,jq,jj,jk,jr,jt,jv,jw,jx,jm,ju,jy,Tryz.f153,jl,mixed,ih]
 exact rfl
noncomputable def Bz (n:Nat):Nat→xk:=FH ((By n).1)
theorem ZZ {n:Nat} {m:Nat}:Bz n (m+1)=(By n).1 (Bz n m):=rfl
theorem MH (n:Nat) (m:Nat):xl n (.lq m [0,0,1,1]::[.blk 0,.cut [1,1,1],.at [1,1,1]]) (Bz n m):=
 mB (G:=fun m Z=>xl n (.lq m [0,0,1,1]::[.blk 0,.cut [1,1,1],.at [1,1,1]]) Z) (fun _ _ _ _ _ _=>k7) (fun m _ ih v0 v1 v2 r1 r2 r3=>k8.trans ((By n).2 _ _ ih v0 v1 v2 r1 r2 r3)) m
noncomputable def Ip (n:Nat):{B:Str→Int→T5→T5→T5→Option Tj // ∀ (o0:Str) (o1:Int) (o2:T5) (o3:T5) (o4:T5),run (uw n) [.at []] (s8 (lT 0 kZ) xg ((o0,o1,()),o2,o3,o4,()) () 84)=B o0 o1 o2 o3 o4}:=by
 apply jz
 intro o0 o1 o2 o3 o4
 simp (config:={maxSteps:=100000000}) only[go_sem,jo,jq,jj,jk,jr,jt,jv,jw,jx,jm,ju,jy,Tryz.f153,jl,mixed,MH n]
 exact rfl
noncomputable def KL:=fu fun n=>(Ip n).1
theorem PI: ∀ (n:Nat) (o0:Str) (o1:Int) (o2:T5) (o3:T5) (o4:T5) (r:Tj),KL n o0 o1 o2 o3 o4=some r→SG Tryz.prog 153 (lT 0 kZ) xg ((o0,o1,()),o2,o3,o4,()) () xh xj r
 |0,_,_,_,_,_,_,h=>by cases h
 |n+1,o0,o1,o2,o3,o4,r,h=>by
  exact okG (((Ip n).2 o0 o1 o2 o3 o4).trans h) (gd (kV (pH (D2 n)) (kV (pH (Lh n)) kW)) kX) Tryz.func153 Tryz.ntmps153 Tryz.results153
noncomputable def LM:DO:=⟨[],[],(zA::zK::ow (ow (nr (nr (zA::zA::zA::zK::nr (nr (zA::[]))))))),[oK],none,none⟩
noncomputable def LN:DO:=⟨[],[],(zK::nr (zA::zK::zA::zK::ow (ow (nr (nr (nr (zA::zA::[]))))))),[oC [zA]],none,none⟩
@[reducible] noncomputable def Gt (n:Nat):lF Int:=qv Tryz.prog Tryz.f187 n (qT Tryz.prog [.tmp 4] (mK .i64)) (cl:=oS [(211,yR nh (mK .i32) (mK .i64) (H9 n)),(212,qR (mK .i64) pQ (strings_shouldUseASCIISet n))]) (wU:=vR [([0,1,0,1,1,1,1],LM),([0,1,0,0,1,1,0,1,0,1,1,1],LN)])
attribute [go_sem] LM LN
noncomputable abbrev LO (v0:Str) (iv0:Str) (ip0:Nat):AState:=⟨(qA:: .str (sb v0)::oJ (oJ (nQ (nQ (qA::qA::qA:: .ptr 0 0::nQ (nQ (qA::[]))))))),[.iter (sb iv0) ip0],0,[]⟩
abbrev A4:=Str→Str→Nat→Option Int
abbrev A5 (n:Nat) (K:List Kt) (Z:A4):Prop:= ∀ (v0:Str) (iv0:Str) (ip0:Nat),run (Gt n) K (LO v0 iv0 ip0)=Z v0 iv0 ip0
noncomputable abbrev LP (v0:Str) (v1:Int):AState:=⟨(.str (sb v0)::nQ (qA:: .ptr 0 0::qA:: .int .i64 v1::oJ (oJ (nQ (nQ (nQ (qA::qA::[]))))))),[.cells [qA]],0,[]⟩
abbrev yj:List Kt:=[.blk 0,.cut [1,0,1,1,0,1,0,1,1,1],.at [1,0,1,1,0,1,0,1,1,1],.cut [1,1,1,1],.at [1,1,1,1]]
abbrev A6:=Str→Int→Option Int
abbrev A7 (n:Nat) (K:List Kt) (Z:A6):Prop:= ∀ (v0:Str) (v1:Int),run (Gt n) K (LP v0 v1)=Z v0 v1
attribute [go_sem] LO LP yj
noncomputable def Fm (n:Nat):{B:A4→A4 // ∀m X0,A5 n (.lq m [0,1,0,1,1,1,1]::[.blk 2,.cut [1,1,1,1,1],.at [1,1,1,1,1]]) X0→A5 n (.at [0,0,1,0,1,1,1,1]:: .lp m [0,1,0,1,1,1,1]::[.blk 2,.cut [1,1,1,1,1],.at [1,1,1,1,1]]) (B X0)}:=by
 apply jz
 intro m X0 ih v0 iv0 ip0
 simp (config:={maxSteps:=100000000}) only[go_sem,jo,jq,jj,jk,jr,jt,jv,jw,jx,jm,ju,jy,Tryz.f187,jl,mixed,ih]
 exact rfl
noncomputable def Fo (n:Nat):Nat→A4:=FH ((Fm n).1)
theorem strings_IndexAny_l1_s {n:Nat} {m:Nat}:Fo n (m+1)=(Fm n).1 (Fo n m):=rfl
theorem Iq (n:Nat) (m:Nat):A5 n (.lq m [0,1,0,1,1,1,1]::[.blk 2,.cut [1,1,1,1,1],.at [1,1,1,1,1]]) (Fo n m):=
 mB (G:=fun m Z=>A5 n (.lq m [0,1,0,1,1,1,1]::[.blk 2,.cut [1,1,1,1,1],.at [1,1,1,1,1]]) Z) (fun _ _ _=>k7) (fun m _ ih v0 iv0 ip0=>k8.trans ((Fm n).2 _ _ ih v0 iv0 ip0)) m
noncomputable def Fp (n:Nat):{B:A6→A6 // ∀m X0,A7 n (.lq m [0,1,0,0,1,1,0,1,0,1,1,1]::yj) X0→A7 n (.at [0,0,1,0,0,1,1,0,1,0,1,1,1]:: .lp m [0,1,0,0,1,1,0,1,0,1,1,1]::yj) (B X0)}:=by
 apply jz
 intro m X0 ih v0 v1
 simp (config:={maxSteps:=100000000}) only[go_sem,jo,jq,jj,jk,jr,jt,jv,jw,jx,jm,ju,jy,Tryz.f187,jl,mixed,Iq n,ih]
 exact rfl
noncomputable def Fq (n:Nat):Nat→A6:=FH ((Fp n).1)
theorem strings_IndexAny_l2_s {n:Nat} {m:Nat}:Fq n (m+1)=(Fp n).1 (Fq n m):=rfl
theorem QM (n:Nat) (m:Nat):A7 n (.lq m [0,1,0,0,1,1,0,1,0,1,1,1]::yj) (Fq n m):=
 mB (G:=fun m Z=>A7 n (.lq m [0,1,0,0,1,1,0,1,0,1,1,1]::yj) Z) (fun _ _=>k7) (fun m _ ih v0 v1=>k8.trans ((Fp n).2 _ _ ih v0 v1)) m
noncomputable def MI (n:Nat):{B:Str→Str→Option Int // ∀ (a0:Str) (a1:Str),run (Gt n) [.at []] (ini [nh.enc a0,nh.enc a1] 55)=B a0 a1}:=by
 apply jz
 intro a0 a1
 simp (config:={maxSteps:=100000000}) only[go_sem,jo,jq,jj,jk,jr,jt,jv,jw,jx,jm,ju,jy,Tryz.f187,jl,mixed,Iq n,QM n]
 exact rfl
noncomputable def strings_IndexAny:=fu fun n=>(MI n).1
theorem US: ∀ (n:Nat) (a0:Str) (a1:Str) (r:Int),strings_IndexAny n a0 a1=some r→yP Tryz.prog 187 [nh.enc a0,nh.enc a1] (fun v=>v=(mK .i64).enc r)
 |0,_,_,_,h=>by cases h
 |n+1,a0,a1,r,h=>by
  exact Lc (((MI n).2 a0 a1).trans h) (gd (kV (qS (KB n)) (kV (pH (Ld n)) kW)) kX) Tryz.func187 ⟨nh.nb 0 _,nh.nb 0 _,trivial⟩ Tryz.ntmps187 Tryz.results187
noncomputable def xm:OL T0:=(lG (mT (ql kN.cel 6 kZ)) nM)
noncomputable def xp:OL T0:=(lG (mT (ql kN.cel 6 kZ)) nM)
noncomputable def xq:OL T0:=(lG (mT (ql kN.cel 6 kZ)) nM)
noncomputable def xu:AL T4:=(lM (ue 66 (lK kP.cel)) kZ)
attribute [go_sem] xm xp xq xu
noncomputable def rV (F:Int→kN→Option Tn):=entXP true [.arg 0 []] xm (lT 0 (lM (mK .i64) kZ)) xp kZ xq xu (fun (b:T0) (a:(Int×Unit))=>F a.1 b.1.1)
attribute [go_sem] rV
@[reducible] noncomputable def QN (n:Nat):lF Tn:=qv Tryz.prog Tryz.f103 n (p9 Tryz.prog [] [] [0] 1 xp kZ) (cl:=oS [(58,entV (rS (qR (zZ kN.cel) (mK .i64) (tu n))))]) (pJ:=qa [] [0] 1 xq xu)
noncomputable def Ir (n:Nat):{B:Int→kN→Option Tn // ∀ (a0:Int) (o0:kN),run (QN n) [.at []] (s8 (lT 0 (lM (mK .i64) kZ)) xm ((o0,()),()) (a0,()) 9)=B a0 o0}:=by
 apply jz
 intro a0 o0
 simp (config:={maxSteps:=100000000,implicitDefEqProofs:=false}) only[go_sem,jo,jq,jj,jk,jr,jt,jv,jw,jx,jm,ju,jy,Tryz.f103,jl,mixed]
 exact rfl
noncomputable def tE:=fu fun n=>(Ir n).1
theorem tF: ∀ (n:Nat) (a0:Int) (o0:kN) (r:Tn),tE n a0 o0=some r→SP Tryz.prog 103 (lT 0 (lM (mK .i64) kZ)) xm ((o0,()),()) (a0,()) true xp kZ xq xu r
 |0,_,_,_,h=>by cases h
 |n+1,a0,o0,r,h=>by
  exact Qv (((Ir n).2 a0 o0).trans h) (gd (kV (oa (nG (sJ n))) kW) kX) Tryz.func103 Tryz.ntmps103 Tryz.results103
end Go.Abs
namespace Go.Abs
open Go.Proofs
set_option maxRecDepth 100000
set_option maxHeartbeats 4000000
noncomputable def tG:OL T7:=(lG (mT (lT 1 (lM (nj Syntax.row) (lM (mK .i64) kZ)))) (lG (mT (u9 2 (u9 3 (u9 4 (lM (mK .i64) kZ))))) (lG (yS (lK Notation.cel)) (lG (yS (lK Notation.cel)) (lG Gr nM)))))
noncomputable def tH:OL T7:=(lG (mT (lT 1 (lM (nj Syntax.row) (lM (mK .i64) kZ)))) (lG (mT (u9 2 (u9 3 (u9 4 (lM (mK .i64) kZ))))) (lG (yS (lK Notation.cel)) (lG (yS (lK Notation.cel)) (lG Gr nM)))))
noncomputable def tI:AL (Syntax×(Int×Unit)):=(lM (lK Syntax.cel) (lM (mK .i64) kZ))
noncomputable def tJ:OL T7:=(lG (mT (lT 1 (lM (nj Syntax.row) (lM (mK .i64) kZ)))) (lG (mT (u9 2 (u9 3 (u9 4 (lM (mK .i64) kZ))))) (lG (yS (lK Notation.cel)) (lG (yS (lK Notation.cel)) (lG Gr nM)))))
attribute [go_sem] tG tH tI tJ
noncomputable def CB (F:Int→(List Syntax)→Int→Int→T9→T9→T5→Option Tg):=entXP true [.arg 0 [],.obj 0 0 [],.obj 1 0 [],.obj 1 1 [],.obj 1 2 []] tG (lT 0 (lM (mK .i64) kZ)) tH tI tJ (lM (ue 202 RD) kZ) (fun (b:T7) (a:(Int×Unit))=>F a.1 b.1.1 b.1.2.1 b.2.1.1 b.2.2.1 b.2.2.2.1 b.2.2.2.2.1)
attribute [go_sem] CB
noncomputable def rJ:OL T7:=(lG (mT (lT 1 (lM (nj Syntax.row) (lM (mK .i64) kZ)))) (lG (mT (u9 2 (u9 3 (u9 4 (lM (mK .i64) kZ))))) (lG (yS (lK Notation.cel)) (lG (yS (lK Notation.cel)) (lG Gr nM)))))
noncomputable def rK:OL T7:=(lG (mT (lT 1 (lM (nj Syntax.row) (lM (mK .i64) kZ)))) (lG (mT (u9 2 (u9 3 (u9 4 (lM (mK .i64) kZ))))) (lG (yS (lK Notation.cel)) (lG (yS (lK Notation.cel)) (lG Gr nM)))))
noncomputable def rL:AL (Syntax×(Int×Unit)):=(lM (lK Syntax.cel) (lM (mK .i64) kZ))
noncomputable def rM:OL T7:=(lG (mT (lT 1 (lM (nj Syntax.row) (lM (mK .i64) kZ)))) (lG (mT (u9 2 (u9 3 (u9 4 (lM (mK .i64) kZ))))) (lG (yS (lK Notation.cel)) (lG (yS (lK Notation.cel)) (lG Gr nM)))))
attribute [go_sem] rJ rK rL rM
noncomputable def E7 (F:Int→(List Syntax)→Int→Int→T9→T9→T5→Option Tg):=entXP true [.arg 0 [],.obj 0 0 [],.obj 1 0 [],.obj 1 1 [],.obj 1 2 []] rJ (lT 0 (lM (mK .i64) kZ)) rK rL rM (lM (ue 202 RD) kZ) (fun (b:T7) (a:(Int×Unit))=>F a.1 b.1.1 b.1.2.1 b.2.1.1 b.2.2.1 b.2.2.2.1 b.2.2.2.2.1)
attribute [go_sem] E7
noncomputable def qX:AL TI:=(lT 0 (lM (lK Notation.cel) (lM (mK .i64) (lM (tyLt Syntax.row) (lM (mK .i64) kZ)))))
noncomputable def qY:OL T7:=(lG (mT (lT 1 (lM (nj Syntax.row) (lM (mK .i64) kZ)))) (lG (mT (u9 2 (u9 3 (u9 4 (lM (mK .i64) kZ))))) (lG (yS (lK Notation.cel)) (lG (yS (lK Notation.cel)) (lG Gr nM)))))
noncomputable def qZ:OL T7:=(lG (mT (lT 1 (lM (nj Syntax.row) (lM (mK .i64) kZ)))) (lG (mT (u9 2 (u9 3 (u9 4 (lM (mK .i64) kZ))))) (lG (yS (lK Notation.cel)) (lG (yS (lK Notation.cel)) (lG Gr nM)))))
noncomputable def q3:OL T7:=(lG (mT (lT 1 (lM (nj Syntax.row) (lM (mK .i64) kZ)))) (lG (mT (u9 2 (u9 3 (u9 4 (lM (mK .i64) kZ))))) (lG (yS (lK Notation.cel)) (lG (yS (lK Notation.cel)) (lG Gr nM)))))
attribute [go_sem] qX qY qZ q3
noncomputable def CC (F:Notation→Int→(List Syntax)→Int→(List Syntax)→Int→Int→T9→T9→T5→Option Tm):=entXP true [.arg 0 [],.obj 0 0 [],.obj 1 0 [],.obj 1 1 [],.obj 1 2 []] qY qX qZ (lM (lK Syntax.cel) kZ) q3 (lM (ue 202 RD) kZ) (fun (b:T7) (a:TI)=>F a.1 a.2.1 a.2.2.1 a.2.2.2.1 b.1.1 b.1.2.1 b.2.1.1 b.2.2.1 b.2.2.2.1 b.2.2.2.2.1)
attribute [go_sem] CC
structure k5 where
 oU:Int→(List Syntax)→Int→Int→T9→T9→T5→Option Tg
 ou:Int→(List Syntax)→Int→Int→T9→T9→T5→Option Tg
 nZ:Notation→Int→(List Syntax)→Int→(List Syntax)→Int→Int→T9→T9→T5→Option Tm
end Go.Abs
namespace Go.Abs
open Go.Proofs
set_option maxRecDepth 100000
set_option maxHeartbeats 4000000
noncomputable def G0:DO:=⟨[],[],(zK::zK::zA::zA::zK::zA::zK::zK::ow (ow (ow (nr (zA::zA::zA::[]))))),[oC [zK,zT (nj Syntax.row),zK],oC [zK,zK,zK,zK],oM (lK Notation.cel),oM (lK Notation.cel),oK,oK,oT Syntax.cel],none,none⟩
@[reducible] noncomputable def Is (X:k5) (n:Nat):lF Tg:=qv Tryz.prog Tryz.f199 n (p9 Tryz.prog [.cell 4 29,.tmp 5] [] [0,1,2,3,4] 5 tH tI) (cl:=oS [(221,AD (Cu n)),(222,yR (lK Notation.cel) (mK .i64) (mK .i64) (OA n))]) (wU:=vR [([0,1,1],G0)]) (pJ:=qa [] [0,1,2,3,4] 5 tJ (lM (ue 202 RD) kZ)) (cp:=z6 [(220,E7 X.ou),(223,CC X.nZ)]) (Ab:=mU [220,223])
attribute [go_sem] G0
noncomputable abbrev G1 (v0:Int) (v1:Int) (v2:List Syntax) (v3:Int) (v4:Int) (r2:List (Str×Notation)) (r3:List (Str×Notation)) (r4:List (Str×Bool)) (o6:Syntax):AState:=⟨(.ptr 0 0:: .int .i64 v0::qA::qA:: .ptr 5 0::qA:: .ptr 6 0:: .int .i64 v1::oJ (oJ (oJ (nQ (qA::qA::qA::[]))))),[.cells [.ptr 1 0,.l5 false 8 (mp Syntax.cells v2),.int .i64 v3],.cells [.map 2,.map 3,.map 4,.int .i64 v4],.map (mp (mcT (lK Notation.cel)) r2),.map (mp (mcT (lK Notation.cel)) r3),.map (mp mcB r4),.cells [.int .i64 0,.str (sb []),.int .i64 0,.l5 true 0 [],.l5 true 0 [],.l5 true 0 [],.int .i64 0,.int .i64 0],.cells (Syntax.cells o6)],5,[]⟩
abbrev xw:=Int→Int→(List Syntax)→Int→Int→T9→T9→T5→Syntax→Option Tg
abbrev xx (X:k5) (n:Nat) (K:List Kt) (Z:xw):Prop:= ∀ (v0:Int) (v1:Int) (v2:List Syntax) (v3:Int) (v4:Int) (r2:List (Str×Notation)) (r3:List (Str×Notation)) (r4:List (Str×Bool)) (o6:Syntax),run (Is X n) K (G1 v0 v1 v2 v3 v4 r2 r3 r4 o6)=Z v0 v1 v2 v3 v4 r2 r3 r4 o6
attribute [go_sem] G1
noncomputable def BA (X:k5) (n:Nat):{B:xw→xw // ∀m X0,xx X n (.lq m [0,1,1]::[.blk 0]) X0→xx X n (.at [0,0,1,1]:: .lp m [0,1,1]::[.blk 0]) (B X0)}:=by
 apply jz
 intro m X0 ih v0 v1 v2 v3 v4 r2 r3 r4 o6
 simp (config:={maxSteps:=100000000,implicitDefEqProofs:=false}) only[go_sem,jo,jq,jj,jk,jr,jt,jv,jw,jx,jm,ju,jy,Tryz.f199,jl,mixed,ih]
 exact rfl
noncomputable def BB (X:k5) (n:Nat):Nat→xw:=FH ((BA X n).1)
theorem Z0 (X:k5) {n:Nat} {m:Nat}:BB X n (m+1)=(BA X n).1 (BB X n m):=rfl
theorem MJ (X:k5) (n:Nat) (m:Nat):xx X n (.lq m [0,1,1]::[.blk 0]) (BB X n m):=
 mB (G:=fun m Z=>xx X n (.lq m [0,1,1]::[.blk 0]) Z) (fun _ _ _ _ _ _ _ _ _=>k7) (fun m _ ih v0 v1 v2 v3 v4 r2 r3 r4 o6=>k8.trans ((BA X n).2 _ _ ih v0 v1 v2 v3 v4 r2 r3 r4 o6)) m
noncomputable def CD (X:k5) (n:Nat):{B:Int→(List Syntax)→Int→Int→T9→T9→T5→Option Tg // ∀ (a0:Int) (o0:(List Syntax)) (o1:Int) (o2:Int) (o3:T9) (o4:T9) (o5:T5),run (Is X n) [.at []] (s8 (lT 0 (lM (mK .i64) kZ)) tG ((o0,o1,()),(o2,()),o3,o4,o5,()) (a0,()) 63)=B a0 o0 o1 o2 o3 o4 o5}:=by
 apply jz
 intro a0 o0 o1 o2 o3 o4 o5
 simp (config:={maxSteps:=100000000,implicitDefEqProofs:=false}) only[go_sem,jo,jq,jj,jk,jr,jt,jv,jw,jx,jm,ju,jy,Tryz.f199,jl,mixed,MJ X n]
 exact rfl
end Go.Abs
namespace Go.Abs
open Go.Proofs
set_option maxRecDepth 100000
set_option maxHeartbeats 4000000
@[reducible] noncomputable def k9 (X:k5) (n:Nat):lF Tg:=qv Tryz.prog Tryz.f220 n (p9 Tryz.prog [.cell 4 29,.tmp 5] [] [0,1,2,3,4] 5 rK rL) (cl:=oS [(245,qR (lK Notation.cel) pQ (HV n))]) (pJ:=qa [] [0,1,2,3,4] 5 rM (lM (ue 202 RD) kZ)) (co:=Na [(223,GK [.arg 0 [],.obj 0 0 [],.obj 1 0 [],.obj 1 1 [],.obj 1 2 []] qY qX qZ (lM (lK Syntax.cel) kZ) q3 (lM (ue 202 RD) kZ) (fun (b:T7) (a:TI)=>X.nZ a.1 a.2.1 a.2.2.1 a.2.2.2.1 b.1.1 b.1.2.1 b.2.1.1 b.2.2.1 b.2.2.2.1 b.2.2.2.2.1))]) (cp:=z6 [(223,CC X.nZ)]) (Ab:=mU [223]) (AZ:=mU [223]) (AY:=mU [])
theorem No (X:k5) (n:Nat):nP (k9 X n) [0,0,1]=true∧nP (k9 X n) [0,0,1,1,1,0,0,1,1,1,1,1]=true∧nP (k9 X n) [0,1,1]=true∧nP (k9 X n) [0,1,1,1,1]=true:=⟨by kernel_rfl,by kernel_rfl,by kernel_rfl,by kernel_rfl⟩
theorem Np (X:k5) (n:Nat):lS (k9 X n) [0,0,1,1,1,0,0,1,1,1,1,1] 1 4=true∧lS (k9 X n) [0,0,1,1,1,0,0,1,1,1,1,1] 3 4=true∧lS (k9 X n) [0,0,1,1,1,0,0,1,1,1,1,1] 1 7=true∧lS (k9 X n) [0,0,1,1,1,0,0,1,1,1,1,1] 3 7=true∧lS (k9 X n) [0,0,1,1,1,0,0,1,1,1,1,1] 4 7=true∧lS (k9 X n) [0,1,1] 3 11=true∧lS (k9 X n) [0,1,1] 7 11=true∧lS (k9 X n) [0,1,1] 8 11=true∧lS (k9 X n) [0,1,1] 9 11=true∧lS (k9 X n) [0,1,1] 10 11=true∧lS (k9 X n) [0,1,1,1,1] 3 14=true∧lS (k9 X n) [0,1,1,1,1] 6 14=true∧lS (k9 X n) [0,1,1,1,1] 8 14=true∧lS (k9 X n) [0,1,1,1,1] 9 14=true∧lS (k9 X n) [0,1,1,1,1] 13 14=true:=⟨by kernel_rfl,by kernel_rfl,by kernel_rfl,by kernel_rfl,by kernel_rfl,by kernel_rfl,by kernel_rfl,by kernel_rfl,by kernel_rfl,by kernel_rfl,by kernel_rfl,by kernel_rfl,by kernel_rfl,by kernel_rfl,by kernel_rfl⟩
theorem Nq (X:k5) (n:Nat):Gq (k9 X n) [0,0,1,1,1,0,0,1,1,1,1,1] 4 5=false∧Gq (k9 X n) [0,0,1,1,1,0,0,1,1,1,1,1] 4 6=false∧Gq (k9 X n) [0,0,1,1,1,0,0,1,1,1,1,1] 4 7=true∧Gq (k9 X n) [0,0,1,1,1,0,0,1,1,1,1,1] 4 8=true:=⟨by kernel_rfl,by kernel_rfl,by kernel_rfl,by kernel_rfl⟩
attribute [go_sem] No Np Nq
noncomputable def z8 (X:k5) (n:Nat):{B:Int→(List Syntax)→Int→Int→T9→T9→T5→Option Tg // ∀ (a0:Int) (o0:(List Syntax)) (o1:Int) (o2:Int) (o3:T9) (o4:T9) (o5:T5),run (k9 X n) [.at []] (s8 (lT 0 (lM (mK .i64) kZ)) rJ ((o0,o1,()),(o2,()),o3,o4,o5,()) (a0,()) 83)=B a0 o0 o1 o2 o3 o4 o5}:=by
 apply jz
 intro a0 o0 o1 o2 o3 o4 o5
 simp (config:={maxSteps:=100000000,implicitDefEqProofs:=false}) only[go_sem,jo,jq,jj,jk,jr,jt,jv,jw,jx,jm,ju,jy,Tryz.f220,jl,mixed]
 exact rfl
end Go.Abs
namespace Go.Abs
open Go.Proofs
set_option maxRecDepth 100000
set_option maxHeartbeats 4000000
noncomputable def G2:DO:=⟨[],[],(nr (zK::nr (zA::zK::zK::nr (zA::zA::zK::DR (nr (zK::zK::zK::nr (nr (zA::zA::zA::[])))))))),[oC [zK,zT (nj Syntax.row),zK],oC [zK,zK,zK,zK],oM (lK Notation.cel),oM (lK Notation.cel),oK,oD,oK,oD,oA Syntax.row,oC [zK,zK,zK,zK,zK,zT (nj Syntax.row),zK,zK]],none,none⟩
noncomputable def G3:DO:=⟨[],[],(nr (zK::nr (zA::zK::zK::nr (zA::zA::zK::DR (nr (zL Syntax.row::zK::zK::nr (nr (zA::zA::zA::[])))))))),[oC [zK,zT (nj Syntax.row),zK],oC [zK,zK,zK,zK],oM (lK Notation.cel),oM (lK Notation.cel),oK,oD,oK,oC [zK,zK,zK,zK,zK,zT (nj Syntax.row),zK,zK]],(some 87),none⟩
noncomputable def G4:DO:=⟨[],[],(zK::zA::zK::zK::zK::zA::zK::zA::zA::zA::zK::zK::nr (nr (nr (zT (nj nq)::zK::zK::DR (nr (nr (zA::zA::[]))))))),[oC [zK,zT (nj Syntax.row),zK],oC [zK,zK,zK,zK],oM (lK Notation.cel),oM (lK Notation.cel),oK,oT Notation.cel,oK,oD,oA Syntax.row],none,none⟩
noncomputable def G5:DO:=⟨[],[],(zK::zA::zK::zL Syntax.row::zK::zA::zK::zA::zA::zA::zK::zK::nr (nr (nr (zT (nj nq)::zK::zK::DR (nr (nr (zA::zA::[]))))))),[oC [zK,zT (nj Syntax.row),zK],oC [zK,zK,zK,zK],oM (lK Notation.cel),oM (lK Notation.cel),oK,oT Notation.cel,oK],(some 3),none⟩
@[reducible] noncomputable def oV (X:k5) (n:Nat):lF Tm:=qv Tryz.prog Tryz.f223 n (p9 Tryz.prog [.cell 10 29] [] [0,1,2,3,4] 5 qZ (lM (lK Syntax.cel) kZ)) (cl:=oS [(221,AD (Cu n)),(222,yR (lK Notation.cel) (mK .i64) (mK .i64) (OA n))]) (wU:=vR [([0,1,0,1,1],G5),([0,1,0,1,1],G4),([0,1,0,1,1,1,1],G3),([0,1,0,1,1,1,1],G2)]) (pJ:=qa [] [0,1,2,3,4] 5 q3 (lM (ue 202 RD) kZ)) (cp:=z6 [(199,CB X.oU)]) (Ab:=mU [199]) (AZ:=mU []) (AY:=mU [])
theorem QO (X:k5) (n:Nat):nP (oV X n) [0,1,1,1,0,0,1,1,0,0,1,0,1,1]=true:=by kernel_rfl
attribute [go_sem] QO G2 G3 G4 G5
noncomputable abbrev BC (v0:Int) (v1:Int) (v2:Int) (v3:Int) (v4:List Syntax) (v5:Int) (v6:Int) (r2:List (Str×Notation)) (r3:List (Str×Notation)) (r4:List (Str×Bool)) (r8:List Syntax) (v11:Int) (v12:Str) (v13:List Syntax) (v14:Int) (v15:Int) (c8:Nat):AState:=⟨(nQ (.int .i64 v0::nQ (qA:: .ptr 6 0:: .int .i64 v1::nQ (qA::qA:: .ptr 9 0::DQ (nQ (.acc 8 c8:: .int .i64 v2:: .int .i64 v3::nQ (nQ (qA::qA::qA::[])))))))),[.cells [.ptr 1 0,.l5 false 8 (mp Syntax.cells v4),.int .i64 v5],.cells [.map 2,.map 3,.map 4,.int .i64 v6],.map (mp (mcT (lK Notation.cel)) r2),.map (mp (mcT (lK Notation.cel)) r3),.map (mp mcB r4),.dead,.cells [.int .i64 0,.str (sb []),.int .i64 0,.l5 true 0 [],.l5 true 0 [],.l5 true 0 [],.int .i64 0,.int .i64 0],.dead,.acc true 8 (mp Syntax.cells r8),.cells [.int .i64 v11,.str (sb v12),.int .i64 0,.l5 true 0 [],.l5 true 0 [],.l5 false 8 (mp Syntax.cells v13),.int .i64 v14,.int .i64 v15]],5,[]⟩
abbrev xy:=Int→Int→Int→Int→(List Syntax)→Int→Int→T9→T9→T5→(List Syntax)→Int→Str→(List Syntax)→Int→Int→Option Tm
abbrev BD (X:k5) (n:Nat) (K:List Kt) (Z:xy):Prop:= ∀ (v0:Int) (v1:Int) (v2:Int) (v3:Int) (v4:List Syntax) (v5:Int) (v6:Int) (r2:List (Str×Notation)) (r3:List (Str×Notation)) (r4:List (Str×Bool)) (r8:List Syntax) (v11:Int) (v12:Str) (v13:List Syntax) (v14:Int) (v15:Int) (c8:Nat),c8=r8.length→run (oV X n) K (BC v0 v1 v2 v3 v4 v5 v6 r2 r3 r4 r8 v11 v12 v13 v14 v15 c8)=Z v0 v1 v2 v3 v4 v5 v6 r2 r3 r4 r8 v11 v12 v13 v14 v15
noncomputable abbrev G6 (v0:Int) (v1:Int) (v2:List Syntax) (v3:Int) (v4:Int) (v5:List Syntax) (v6:Int) (v7:Int) (r2:List (Str×Notation)) (r3:List (Str×Notation)) (r4:List (Str×Bool)) (v11:Int) (v12:Str) (v13:List Syntax) (v14:Int) (v15:Int):AState:=⟨(nQ (.int .i64 v0::nQ (qA:: .ptr 6 0:: .int .i64 v1::nQ (qA::qA:: .ptr 7 0::DQ (nQ (.l5 true 8 (mp Syntax.cells v2):: .int .i64 v3:: .int .i64 v4::nQ (nQ (qA::qA::qA::[])))))))),[.cells [.ptr 1 0,.l5 false 8 (mp Syntax.cells v5),.int .i64 v6],.cells [.map 2,.map 3,.map 4,.int .i64 v7],.map (mp (mcT (lK Notation.cel)) r2),.map (mp (mcT (lK Notation.cel)) r3),.map (mp mcB r4),.dead,.cells [.int .i64 0,.str (sb []),.int .i64 0,.l5 true 0 [],.l5 true 0 [],.l5 true 0 [],.int .i64 0,.int .i64 0],.cells [.int .i64 v11,.str (sb v12),.int .i64 0,.l5 true 0 [],.l5 true 0 [],.l5 false 8 (mp Syntax.cells v13),.int .i64 v14,.int .i64 v15]],5,[]⟩
abbrev xz:=Int→Int→(List Syntax)→Int→Int→(List Syntax)→Int→Int→T9→T9→T5→Int→Str→(List Syntax)→Int→Int→Option Tm
abbrev xA (X:k5) (n:Nat) (K:List Kt) (Z:xz):Prop:= ∀ (v0:Int) (v1:Int) (v2:List Syntax) (v3:Int) (v4:Int) (v5:List Syntax) (v6:Int) (v7:Int) (r2:List (Str×Notation)) (r3:List (Str×Notation)) (r4:List (Str×Bool)) (v11:Int) (v12:Str) (v13:List Syntax) (v14:Int) (v15:Int),run (oV X n) K (G6 v0 v1 v2 v3 v4 v5 v6 v7 r2 r3 r4 v11 v12 v13 v14 v15)=Z v0 v1 v2 v3 v4 v5 v6 v7 r2 r3 r4 v11 v12 v13 v14 v15
noncomputable abbrev BE (v0:Int) (v1:Int) (v2:Int) (v3:List Str) (v4:Int) (v5:Int) (v6:List Syntax) (v7:Int) (v8:Int) (r2:List (Str×Notation)) (r3:List (Str×Notation)) (r4:List (Str×Bool)) (o5:Notation) (r8:List Syntax) (c8:Nat):AState:=⟨(.ptr 0 0::qA:: .int .i64 v0:: .acc 8 c8:: .int .i64 v1::qA:: .ptr 5 0::qA::qA::qA:: .ptr 6 0:: .int .i64 v2::nQ (nQ (nQ (.l5 false 1 (mp mo v3):: .int .i64 v4:: .int .i64 v5::DQ (nQ (nQ (qA::qA::[]))))))),[.cells [.ptr 1 0,.l5 false 8 (mp Syntax.cells v6),.int .i64 v7],.cells [.map 2,.map 3,.map 4,.int .i64 v8],.map (mp (mcT (lK Notation.cel)) r2),.map (mp (mcT (lK Notation.cel)) r3),.map (mp mcB r4),.cells (Notation.cells o5),.cells [.int .i64 0,.str (sb []),.int .i64 0,.l5 true 0 [],.l5 true 0 [],.l5 true 0 [],.int .i64 0,.int .i64 0],.dead,.acc true 8 (mp Syntax.cells r8)],5,[]⟩
abbrev xB:=Int→Int→Int→(List Str)→Int→Int→(List Syntax)→Int→Int→T9→T9→T5→Notation→(List Syntax)→Option Tm
abbrev BF (X:k5) (n:Nat) (K:List Kt) (Z:xB):Prop:= ∀ (v0:Int) (v1:Int) (v2:Int) (v3:List Str) (v4:Int) (v5:Int) (v6:List Syntax) (v7:Int) (v8:Int) (r2:List (Str×Notation)) (r3:List (Str×Notation)) (r4:List (Str×Bool)) (o5:Notation) (r8:List Syntax) (c8:Nat),c8=r8.length→run (oV X n) K (BE v0 v1 v2 v3 v4 v5 v6 v7 v8 r2 r3 r4 o5 r8 c8)=Z v0 v1 v2 v3 v4 v5 v6 v7 v8 r2 r3 r4 o5 r8
noncomputable abbrev G7 (v0:Int) (v1:List Syntax) (v2:Int) (v3:Int) (v4:List Str) (v5:Int) (v6:Int) (v7:List Syntax) (v8:Int) (v9:Int) (r2:List (Str×Notation)) (r3:List (Str×Notation)) (r4:List (Str×Bool)) (o5:Notation):AState:=⟨(.ptr 0 0::qA:: .int .i64 v0:: .l5 true 8 (mp Syntax.cells v1):: .int .i64 v2::qA:: .ptr 5 0::qA::qA::qA:: .ptr 6 0:: .int .i64 v3::nQ (nQ (nQ (.l5 false 1 (mp mo v4):: .int .i64 v5:: .int .i64 v6::DQ (nQ (nQ (qA::qA::[]))))))),[.cells [.ptr 1 0,.l5 false 8 (mp Syntax.cells v7),.int .i64 v8],.cells [.map 2,.map 3,.map 4,.int .i64 v9],.map (mp (mcT (lK Notation.cel)) r2),.map (mp (mcT (lK Notation.cel)) r3),.map (mp mcB r4),.cells (Notation.cells o5),.cells [.int .i64 0,.str (sb []),.int .i64 0,.l5 true 0 [],.l5 true 0 [],.l5 true 0 [],.int .i64 0,.int .i64 0]],5,[]⟩
abbrev xC:=Int→(List Syntax)→Int→Int→(List Str)→Int→Int→(List Syntax)→Int→Int→T9→T9→T5→Notation→Option Tm
abbrev xD (X:k5) (n:Nat) (K:List Kt) (Z:xC):Prop:= ∀ (v0:Int) (v1:List Syntax) (v2:Int) (v3:Int) (v4:List Str) (v5:Int) (v6:Int) (v7:List Syntax) (v8:Int) (v9:Int) (r2:List (Str×Notation)) (r3:List (Str×Notation)) (r4:List (Str×Bool)) (o5:Notation),run (oV X n) K (G7 v0 v1 v2 v3 v4 v5 v6 v7 v8 v9 r2 r3 r4 o5)=Z v0 v1 v2 v3 v4 v5 v6 v7 v8 v9 r2 r3 r4 o5
attribute [go_sem] BC G6 BE G7
noncomputable def BG (X:k5) (n:Nat):{B:xy→xy // ∀m X0,BD X n (.lq m [0,1,0,1,1,1,1]::[.blk 2,.cut [1,1,1,1,1],.at [1,1,1,1,1]]) X0→ ∀ (v0:Int) (v1:Int) (v2:Int) (v3:Int) (v4:List Syntax) (v5:Int) (v6:Int) (r2:List (Str×Notation)) (r3:List (Str×Notation)) (r4:List (Str×Bool)) (r8:List Syntax) (v11:Int) (v12:Str) (v13:List Syntax) (v14:Int) (v15:Int),run (oV X n) (.at [0,0,1,0,1,1,1,1]:: .lp m [0,1,0,1,1,1,1]::[.blk 2,.cut [1,1,1,1,1],.at [1,1,1,1,1]]) (BC v0 v1 v2 v3 v4 v5 v6 r2 r3 r4 r8 v11 v12 v13 v14 v15 (r8.length))=B X0 v0 v1 v2 v3 v4 v5 v6 r2 r3 r4 r8 v11 v12 v13 v14 v15}:=by
 apply jz
 intro m X0 ih v0 v1 v2 v3 v4 v5 v6 r2 r3 r4 r8 v11 v12 v13 v14 v15
 simp (config:={maxSteps:=100000000,implicitDefEqProofs:=false}) only[go_sem,jo,jq,jj,jk,jr,jt,jv,jw,jx,jm,ju,jy,Tryz.f223,jl,mixed,ih]
 exact rfl
noncomputable def BH (X:k5) (n:Nat):Nat→xy:=FH ((BG X n).1)
theorem Z1 (X:k5) {n:Nat} {m:Nat}:BH X n (m+1)=(BG X n).1 (BH X n m):=rfl
theorem ux (X:k5) (n:Nat) (m:Nat):BD X n (.lq m [0,1,0,1,1,1,1]::[.blk 2,.cut [1,1,1,1,1],.at [1,1,1,1,1]]) (BH X n m):=
 mB (G:=fun m Z=>BD X n (.lq m [0,1,0,1,1,1,1]::[.blk 2,.cut [1,1,1,1,1],.at [1,1,1,1,1]]) Z) (fun _ _ _ _ _ _ _ _ _ _ _ _ _ _ _ _ _ _=>k7) (fun m _ ih=>by
  intro v0 v1 v2 v3 v4 v5 v6 r2 r3 r4 r8 v11 v12 v13 v14 v15 c8 ec8
  subst ec8
  rw[k8]
  exact (BG X n).2 _ _ ih v0 v1 v2 v3 v4 v5 v6 r2 r3 r4 r8 v11 v12 v13 v14 v15) m
noncomputable def BI (X:k5) (n:Nat):{B:xz→xz // ∀m X0,xA X n (.lq m [0,1,0,1,1,1,1]::[.blk 2,.cut [1,1,1,1,1],.at [1,1,1,1,1]]) X0→xA X n (.at [0,0,1,0,1,1,1,1]:: .lp m [0,1,0,1,1,1,1]::[.blk 2,.cut [1,1,1,1,1],.at [1,1,1,1,1]]) (B X0)}:=by
 apply jz
 intro m X0 ih v0 v1 v2 v3 v4 v5 v6 v7 r2 r3 r4 v11 v12 v13 v14 v15
 simp (config:={maxSteps:=100000000,implicitDefEqProofs:=false}) only[go_sem,jo,jq,jj,jk,jr,jt,jv,jw,jx,jm,ju,jy,Tryz.f223,jl,mixed,ux X n,ih]
 exact rfl
noncomputable def BJ (X:k5) (n:Nat):Nat→xz:=FH ((BI X n).1)
theorem Z2 (X:k5) {n:Nat} {m:Nat}:BJ X n (m+1)=(BI X n).1 (BJ X n m):=rfl
theorem ze (X:k5) (n:Nat) (m:Nat):xA X n (.lq m [0,1,0,1,1,1,1]::[.blk 2,.cut [1,1,1,1,1],.at [1,1,1,1,1]]) (BJ X n m):=
 mB (G:=fun m Z=>xA X n (.lq m [0,1,0,1,1,1,1]::[.blk 2,.cut [1,1,1,1,1],.at [1,1,1,1,1]]) Z) (fun _ _ _ _ _ _ _ _ _ _ _ _ _ _ _ _=>k7) (fun m _ ih v0 v1 v2 v3 v4 v5 v6 v7 r2 r3 r4 v11 v12 v13 v14 v15=>k8.trans ((BI X n).2 _ _ ih v0 v1 v2 v3 v4 v5 v6 v7 r2 r3 r4 v11 v12 v13 v14 v15)) m
noncomputable def BK (X:k5) (n:Nat):{B:xB→xB // ∀m X0,BF X n (.lq m [0,1,0,1,1]::[.blk 0,.cut [1,1,1],.at [1,1,1]]) X0→ ∀ (v0:Int) (v1:Int) (v2:Int) (v3:List Str) (v4:Int) (v5:Int) (v6:List Syntax) (v7:Int) (v8:Int) (r2:List (Str×Notation)) (r3:List (Str×Notation)) (r4:List (Str×Bool)) (o5:Notation) (r8:List Syntax),run (oV X n) (.at [0,0,1,0,1,1]:: .lp m [0,1,0,1,1]::[.blk 0,.cut [1,1,1],.at [1,1,1]]) (BE v0 v1 v2 v3 v4 v5 v6 v7 v8 r2 r3 r4 o5 r8 (r8.length))=B X0 v0 v1 v2 v3 v4 v5 v6 v7 v8 r2 r3 r4 o5 r8}:=by
 apply jz
 intro m X0 ih v0 v1 v2 v3 v4 v5 v6 v7 v8 r2 r3 r4 o5 r8
 simp (config:={maxSteps:=100000000,implicitDefEqProofs:=false}) only[go_sem,jo,jq,jj,jk,jr,jt,jv,jw,jx,jm,ju,jy,Tryz.f223,jl,mixed,ux X n,ze X n,ih]
 exact rfl
noncomputable def BL (X:k5) (n:Nat):Nat→xB:=FH ((BK X n).1)
theorem Z3 (X:k5) {n:Nat} {m:Nat}:BL X n (m+1)=(BK X n).1 (BL X n m):=rfl
theorem Ej (X:k5) (n:Nat) (m:Nat):BF X n (.lq m [0,1,0,1,1]::[.blk 0,.cut [1,1,1],.at [1,1,1]]) (BL X n m):=
 mB (G:=fun m Z=>BF X n (.lq m [0,1,0,1,1]::[.blk 0,.cut [1,1,1],.at [1,1,1]]) Z) (fun _ _ _ _ _ _ _ _ _ _ _ _ _ _ _ _=>k7) (fun m _ ih=>by
  intro v0 v1 v2 v3 v4 v5 v6 v7 v8 r2 r3 r4 o5 r8 c8 ec8
  subst ec8
  rw[k8]
  exact (BK X n).2 _ _ ih v0 v1 v2 v3 v4 v5 v6 v7 v8 r2 r3 r4 o5 r8) m
noncomputable def BM (X:k5) (n:Nat):{B:Nat→xC→xC // ∀m X0,xD X n (.lq m [0,1,0,1,1]::[.blk 0,.cut [1,1,1],.at [1,1,1]]) X0→xD X n (.at [0,0,1,0,1,1]:: .lp m [0,1,0,1,1]::[.blk 0,.cut [1,1,1],.at [1,1,1]]) (B m X0)}:=by
 apply jz
 intro m X0 ih v0 v1 v2 v3 v4 v5 v6 v7 v8 v9 r2 r3 r4 o5
 simp (config:={maxSteps:=100000000,implicitDefEqProofs:=false}) only[go_sem,jo,jq,jj,jk,jr,jt,jv,jw,jx,jm,ju,jy,Tryz.f223,jl,mixed,ux X n,ze X n,Ej X n,ih]
 exact rfl
noncomputable def BN (X:k5) (n:Nat):Nat→xC:=lpM fun m=>(BM X n).1 m
theorem Z4 (X:k5) {n:Nat} {m:Nat}:BN X n (m+1)=(BM X n).1 m (BN X n m):=rfl
theorem MK (X:k5) (n:Nat) (m:Nat):xD X n (.lq m [0,1,0,1,1]::[.blk 0,.cut [1,1,1],.at [1,1,1]]) (BN X n m):=
 lpM_eq (G:=fun m Z=>xD X n (.lq m [0,1,0,1,1]::[.blk 0,.cut [1,1,1],.at [1,1,1]]) Z) (fun _ _ _ _ _ _ _ _ _ _ _ _ _ _=>k7) (fun m _ ih v0 v1 v2 v3 v4 v5 v6 v7 v8 v9 r2 r3 r4 o5=>k8.trans ((BM X n).2 _ _ ih v0 v1 v2 v3 v4 v5 v6 v7 v8 v9 r2 r3 r4 o5)) m
noncomputable def CE (X:k5) (n:Nat):{B:Notation→Int→(List Syntax)→Int→(List Syntax)→Int→Int→T9→T9→T5→Option Tm // ∀ (a0:Notation) (a1:Int) (a2:(List Syntax)) (a3:Int) (o0:(List Syntax)) (o1:Int) (o2:Int) (o3:T9) (o4:T9) (o5:T5),run (oV X n) [.at []] (s8 qX qY ((o0,o1,()),(o2,()),o3,o4,o5,()) (a0,a1,a2,a3,()) 101)=B a0 a1 a2 a3 o0 o1 o2 o3 o4 o5}:=by
 apply jz
 intro a0 a1 a2 a3 o0 o1 o2 o3 o4 o5
 simp (config:={maxSteps:=100000000,implicitDefEqProofs:=false}) only[go_sem,jo,jq,jj,jk,jr,jt,jv,jw,jx,jm,ju,jy,Tryz.f223,jl,mixed,ux X n,ze X n,Ej X n,MK X n]
 exact rfl
end Go.Abs
namespace Go.Abs
open Go.Proofs
set_option maxRecDepth 100000
set_option maxHeartbeats 4000000
noncomputable def lE:Nat→k5
 |0=>⟨Fu.z,Fu.z,Fu.z⟩
 |n+1=>⟨(CD (lE n) n).1,(z8 (lE n) n).1,(CE (lE n) n).1⟩
noncomputable def oU (n:Nat):Int→(List Syntax)→Int→Int→T9→T9→T5→Option Tg:=(lE n).oU
theorem notation_parser_expr_s {n:Nat}:oU (n+1)=(CD (lE n) n).1:=rfl
noncomputable def ou (n:Nat):Int→(List Syntax)→Int→Int→T9→T9→T5→Option Tg:=(lE n).ou
theorem Z5 {n:Nat}:ou (n+1)=(z8 (lE n) n).1:=rfl
noncomputable def nZ (n:Nat):Notation→Int→(List Syntax)→Int→(List Syntax)→Int→Int→T9→T9→T5→Option Tm:=(lE n).nZ
theorem notation_parser_rest_s {n:Nat}:nZ (n+1)=(CE (lE n) n).1:=rfl
theorem notation_parser_expr_qq {n:Nat}:(lE n).oU=oU n∧(lE n).ou=ou n∧(lE n).nZ=nZ n:=⟨rfl,rfl,rfl⟩
theorem vX: ∀n:Nat,(∀ (a0:Int) (o0:(List Syntax)) (o1:Int) (o2:Int) (o3:T9) (o4:T9) (o5:T5) (r:Tg),(lE n).oU a0 o0 o1 o2 o3 o4 o5=some r→SP Tryz.prog 199 (lT 0 (lM (mK .i64) kZ)) tG ((o0,o1,()),(o2,()),o3,o4,o5,()) (a0,()) true tH tI tJ (lM (ue 202 RD) kZ) r)∧(∀ (a0:Int) (o0:(List Syntax)) (o1:Int) (o2:Int) (o3:T9) (o4:T9) (o5:T5) (r:Tg),(lE n).ou a0 o0 o1 o2 o3 o4 o5=some r→SP Tryz.prog 220 (lT 0 (lM (mK .i64) kZ)) rJ ((o0,o1,()),(o2,()),o3,o4,o5,()) (a0,()) true rK rL rM (lM (ue 202 RD) kZ) r)∧(∀ (a0:Notation) (a1:Int) (a2:(List Syntax)) (a3:Int) (o0:(List Syntax)) (o1:Int) (o2:Int) (o3:T9) (o4:T9) (o5:T5) (r:Tm),(lE n).nZ a0 a1 a2 a3 o0 o1 o2 o3 o4 o5=some r→SP Tryz.prog 223 qX qY ((o0,o1,()),(o2,()),o3,o4,o5,()) (a0,a1,a2,a3,()) true qZ (lM (lK Syntax.cel) kZ) q3 (lM (ue 202 RD) kZ) r)
 |0=>⟨fun _ _ _ _ _ _ _ _ h=>(by cases h),fun _ _ _ _ _ _ _ _ h=>(by cases h),fun _ _ _ _ _ _ _ _ _ _ _ h=>(by cases h)⟩
 |n+1=>by
  obtain ⟨PJ,ML,BO⟩:=vX n
  exact ⟨fun a0 o0 o1 o2 o3 o4 o5 r h=>Qv (((CD (lE n) n).2 a0 o0 o1 o2 o3 o4 o5).trans h) (gd (kV (Dy (fun b a r h=>(EX n) b.1.1 b.1.2.1 b.2.1.1 b.2.2.1 b.2.2.2.1 b.2.2.2.2.1 r h)) (kV (qS (PA n)) kW)) kX (p:=(kY (ld (fun b a r h=>(ML) a.1 b.1.1 b.1.2.1 b.2.1.1 b.2.2.1 b.2.2.2.1 b.2.2.2.2.1 r h)) (kY (ld (fun b a r h=>(BO) a.1 a.2.1 a.2.2.1 a.2.2.2.1 b.1.1 b.1.2.1 b.2.1.1 b.2.2.1 b.2.2.2.1 b.2.2.2.2.1 r h)) lP)))) Tryz.func199 Tryz.ntmps199 Tryz.results199,
   fun a0 o0 o1 o2 o3 o4 o5 r h=>Qv (((z8 (lE n) n).2 a0 o0 o1 o2 o3 o4 o5).trans h) (gd (kV (pH (HW n)) kW) kX (p:=(kY (ld (fun b a r h=>(BO) a.1 a.2.1 a.2.2.1 a.2.2.2.1 b.1.1 b.1.2.1 b.2.1.1 b.2.2.1 b.2.2.2.1 b.2.2.2.2.1 r h)) lP)) (c:=(mW (yZ (fun b a r h=>(BO) a.1 a.2.1 a.2.2.1 a.2.2.2.1 b.1.1 b.1.2.1 b.2.1.1 b.2.2.1 b.2.2.2.1 b.2.2.2.2.1 r h)) tA))) Tryz.func220 Tryz.ntmps220 Tryz.results220,
   fun a0 a1 a2 a3 o0 o1 o2 o3 o4 o5 r h=>Qv (((CE (lE n) n).2 a0 a1 a2 a3 o0 o1 o2 o3 o4 o5).trans h) (gd (kV (Dy (fun b a r h=>(EX n) b.1.1 b.1.2.1 b.2.1.1 b.2.2.1 b.2.2.2.1 b.2.2.2.2.1 r h)) (kV (qS (PA n)) kW)) kX (p:=(kY (ld (fun b a r h=>(PJ) a.1 b.1.1 b.1.2.1 b.2.1.1 b.2.2.1 b.2.2.2.1 b.2.2.2.2.1 r h)) lP))) Tryz.func223 Tryz.ntmps223 Tryz.results223⟩
theorem PK (n:Nat): ∀ (a0:Int) (o0:(List Syntax)) (o1:Int) (o2:Int) (o3:T9) (o4:T9) (o5:T5) (r:Tg),oU n a0 o0 o1 o2 o3 o4 o5=some r→SP Tryz.prog 199 (lT 0 (lM (mK .i64) kZ)) tG ((o0,o1,()),(o2,()),o3,o4,o5,()) (a0,()) true tH tI tJ (lM (ue 202 RD) kZ) r:=(vX n).1
theorem ZI (n:Nat): ∀ (a0:Int) (o0:(List Syntax)) (o1:Int) (o2:Int) (o3:T9) (o4:T9) (o5:T5) (r:Tg),ou n a0 o0 o1 o2 o3 o4 o5=some r→SP Tryz.prog 220 (lT 0 (lM (mK .i64) kZ)) rJ ((o0,o1,()),(o2,()),o3,o4,o5,()) (a0,()) true rK rL rM (lM (ue 202 RD) kZ) r:=(vX n).2.1
theorem notation_parser_rest_ok (n:Nat): ∀ (a0:Notation) (a1:Int) (a2:(List Syntax)) (a3:Int) (o0:(List Syntax)) (o1:Int) (o2:Int) (o3:T9) (o4:T9) (o5:T5) (r:Tm),nZ n a0 a1 a2 a3 o0 o1 o2 o3 o4 o5=some r→SP Tryz.prog 223 qX qY ((o0,o1,()),(o2,()),o3,o4,o5,()) (a0,a1,a2,a3,()) true qZ (lM (lK Syntax.cel) kZ) q3 (lM (ue 202 RD) kZ) r:=(vX n).2.2
end Go.Abs
namespace Go.Abs
open Go.Proofs
set_option maxRecDepth 100000
set_option maxHeartbeats 4000000
@[reducible] noncomputable def QS (n:Nat):lF Bool:=qv Tryz.prog Tryz.f79 n (qT Tryz.prog [.tmp 4] pQ) (cl:=oS [(74,Sm (zZ kN.cel) (mK .i64) nh pQ (yT n))])
noncomputable def It (n:Nat):{B:kN→Str→Option Bool // ∀ (a0:kN) (a1:Str),run (QS n) [.at []] (ini [(zZ kN.cel).enc a0,nh.enc a1] 8)=B a0 a1}:=by
 apply jz
 intro a0 a1
 simp (config:={maxSteps:=100000000}) only[go_sem,jo,jq,jj,jk,jr,jt,jv,jw,jx,jm,ju,jy,Tryz.f79,jl,mixed]
 exact rfl
noncomputable def n4:=fu fun n=>(It n).1
theorem nR: ∀ (n:Nat) (a0:kN) (a1:Str) (r:Bool),n4 n a0 a1=some r→yP Tryz.prog 79 [(zZ kN.cel).enc a0,nh.enc a1] (fun v=>v=pQ.enc r)
 |0,_,_,_,h=>by cases h
 |n+1,a0,a1,r,h=>by
  exact Lc (((It n).2 a0 a1).trans h) (gd (kV (Wj (yg n)) kW) kX) Tryz.func79 ⟨(zZ kN.cel).nb 0 _,nh.nb 0 _,trivial⟩ Tryz.ntmps79 Tryz.results79
noncomputable def Rr:DO:=⟨[(5,9,true)],[],(zA::zA::zA::zK::zA::zK::zA::zA::zT (nj nq)::zK::zK::nr (nr (nr []))),[oT Syntax.cel,oA kT.row],none,none⟩
@[reducible] noncomputable def MM (n:Nat):lF Ti:=qv Tryz.prog Tryz.f124 n (qT Tryz.prog [.tmp 4] (nj kT.row)) (cl:=oS [(160,qR (lK Syntax.cel) (lK Syntax.cel) (JZ n))]) (wU:=vR [([0,1,0,1,1],Rr)])
attribute [go_sem] Rr
noncomputable abbrev Li (v0:List Str) (v1:Int) (v2:Int) (o0:Syntax) (r1:List kT) (c1:Nat):AState:=⟨(qA::qA::qA:: .ptr 0 0::qA:: .acc 1 c1::qA::qA:: .l5 false 1 (mp mo v0):: .int .i64 v1:: .int .i64 v2::nQ (nQ (nQ []))),[.cells (Syntax.cells o0),.acc true 9 (mp kT.cells r1)],0,[]⟩
abbrev Gd:=(List Str)→Int→Int→Syntax→Ti→Option Ti
abbrev Lj (n:Nat) (K:List Kt) (Z:Gd):Prop:= ∀ (v0:List Str) (v1:Int) (v2:Int) (o0:Syntax) (r1:List kT) (c1:Nat),c1=r1.length→run (MM n) K (Li v0 v1 v2 o0 r1 c1)=Z v0 v1 v2 o0 r1
attribute [go_sem] Li
noncomputable def Ll (n:Nat):{B:Gd→Gd // ∀m X0,Lj n (.lq m [0,1,0,1,1]::[.blk 0,.cut [1,1,1],.at [1,1,1]]) X0→ ∀ (v0:List Str) (v1:Int) (v2:Int) (o0:Syntax) (r1:List kT),run (MM n) (.at [0,0,1,0,1,1]:: .lp m [0,1,0,1,1]::[.blk 0,.cut [1,1,1],.at [1,1,1]]) (Li v0 v1 v2 o0 r1 (r1.length))=B X0 v0 v1 v2 o0 r1}:=by
 apply jz
 intro m X0 ih v0 v1 v2 o0 r1
 simp (config:={maxSteps:=100000000}) only[go_sem,jo,jq,jj,jk,jr,jt,jv,jw,jx,jm,ju,jy,Tryz.f124,jl,mixed,ih]
 exact rfl
noncomputable def Lm (n:Nat):Nat→Gd:=FH ((Ll n).1)
theorem parser_typed_l1_s {n:Nat} {m:Nat}:Lm n (m+1)=(Ll n).1 (Lm n m):=rfl
theorem VQ (n:Nat) (m:Nat):Lj n (.lq m [0,1,0,1,1]::[.blk 0,.cut [1,1,1],.at [1,1,1]]) (Lm n m):=
 mB (G:=fun m Z=>Lj n (.lq m [0,1,0,1,1]::[.blk 0,.cut [1,1,1],.at [1,1,1]]) Z) (fun _ _ _ _ _ _ _=>k7) (fun m _ ih=>by
  intro v0 v1 v2 o0 r1 c1 ec1
  subst ec1
  rw[k8]
  exact (Ll n).2 _ _ ih v0 v1 v2 o0 r1) m
noncomputable def SX (n:Nat):{B:(List Str)→Syntax→Option Ti // ∀ (a0:(List Str)) (a1:Syntax),run (MM n) [.at []] (ini [(nj nq).enc a0,(lK Syntax.cel).enc a1] 23)=B a0 a1}:=by
 apply jz
 intro a0 a1
 simp (config:={maxSteps:=100000000}) only[go_sem,jo,jq,jj,jk,jr,jt,jv,jw,jx,jm,ju,jy,Tryz.f124,jl,mixed,VQ n]
 exact rfl
noncomputable def QT:=fu fun n=>(SX n).1
theorem Rs: ∀ (n:Nat) (a0:(List Str)) (a1:Syntax) (r:Ti),QT n a0 a1=some r→yP Tryz.prog 124 [(nj nq).enc a0,(lK Syntax.cel).enc a1] (fun v=>v=(nj kT.row).enc r)
 |0,_,_,_,h=>by cases h
 |n+1,a0,a1,r,h=>by
  exact Lc (((SX n).2 a0 a1).trans h) (gd (kV (pH (Pw n)) kW) kX) Tryz.func124 ⟨(nj nq).nb 0 _,(lK Syntax.cel).nb 0 _,trivial⟩ Tryz.ntmps124 Tryz.results124
@[reducible] noncomputable def Vg (n:Nat):lF Syntax:=qv Tryz.prog Tryz.f121 n (qT Tryz.prog [.cell 6 29] (lK Syntax.cel)) (cl:=oS [(158,qR (nj kT.row) (tyK1 190 (zZ (cL kT.row))) (I2 n)),(190,E3 (GS n))]) (js:=tabJ [([0,1,0,1],[])])
theorem Ye (n:Nat):lkM (Vg n) [0,1,0,1]=mY:=rfl
attribute [go_sem] Cr Ye
noncomputable def Vh (n:Nat):{B:Syntax→Ti→Syntax→Option Syntax // ∀ (a0:Syntax) (a1:Ti) (a2:Syntax),run (Vg n) [.at []] (ini [(lK Syntax.cel).enc a0,(nj kT.row).enc a1,(lK Syntax.cel).enc a2] 29)=B a0 a1 a2}:=by
 apply jz
 intro a0 a1 a2
 simp (config:={maxSteps:=100000000}) only[go_sem,jo,jq,jj,jk,jr,jt,jv,jw,jx,jm,ju,jy,Tryz.f121,jl,mixed]
 exact rfl
noncomputable def NV:=fu fun n=>(Vh n).1
theorem MN: ∀ (n:Nat) (a0:Syntax) (a1:Ti) (a2:Syntax) (r:Syntax),NV n a0 a1 a2=some r→yP Tryz.prog 121 [(lK Syntax.cel).enc a0,(nj kT.row).enc a1,(lK Syntax.cel).enc a2] (fun v=>v=(lK Syntax.cel).enc r)
 |0,_,_,_,_,h=>by cases h
 |n+1,a0,a1,a2,r,h=>by
  exact Lc (((Vh n).2 a0 a1 a2).trans h) (gd (kV (pH (Oq n)) (kV (Dy (fun b a r h=>(ME n) a.1 b.2.1.1 b.2.2.1.1 r h)) kW)) kX) Tryz.func121 ⟨(lK Syntax.cel).nb 0 _,(nj kT.row).nb 0 _,(lK Syntax.cel).nb 0 _,trivial⟩ Tryz.ntmps121 Tryz.results121
@[reducible] noncomputable def FV (n:Nat):lF Bool:=qv Tryz.prog Tryz.f161 n (qT Tryz.prog [.tmp 2] pQ) (cl:=oS [(56,qR (zZ kN.cel) (lK Token.cel) (mh n))]) (cd:=Pd [(195,rS (yR (nj nq) nh pQ (Cz n)))]) (AZ:=mU []) (AY:=mU [])
theorem OH (n:Nat):nP (FV n) [0,1,1]=true:=by kernel_rfl
attribute [go_sem] OH
noncomputable def FW (n:Nat):{B:kN→Option Bool // ∀ (a0:kN),run (FV n) [.at []] (ini [(zZ kN.cel).enc a0] 25)=B a0}:=by
 apply jz
 intro a0
 simp (config:={maxSteps:=100000000}) only[go_sem,jo,jq,jj,jk,jr,jt,jv,jw,jx,jm,ju,jy,Tryz.f161,jl,mixed]
 exact rfl
noncomputable def CF:=fu fun n=>(FW n).1
theorem E8: ∀ (n:Nat) (a0:kN) (r:Bool),CF n a0=some r→yP Tryz.prog 161 [(zZ kN.cel).enc a0] (fun v=>v=pQ.enc r)
 |0,_,_,h=>by cases h
 |n+1,a0,r,h=>by
  exact Lc (((FW n).2 a0).trans h) (gd (kV (pH (lZ n)) kW) (s7 (Ad (E6 n)) kX)) Tryz.func161 ⟨(zZ kN.cel).nb 0 _,trivial⟩ Tryz.ntmps161 Tryz.results161
noncomputable def tY:DO:=⟨[],[],(zA::zT (nj kO.row)::zT (tyF 43)::nr (nr (nr (zT (nj kO.row)::zK::zK::nr (nr (nr (zA::zA::[]))))))),[],none,none⟩
@[reducible] noncomputable def uy (n:Nat):lF Bool:=qv Tryz.prog Tryz.f42 n (qT Tryz.prog [.tmp 6] pQ) (cl:=oS [(43,yR (lK kO.cel) (lK kO.cel) pQ (NT n))]) (wU:=vR [([0,1,0,1,1],tY)])
attribute [go_sem] tY
noncomputable abbrev tZ (v0:List kO) (v1:List kO) (v2:Int) (v3:Int):AState:=⟨(qA:: .l5 false 2 (mp kO.cells v0):: .func (.func 43) [] []::nQ (nQ (nQ (.l5 false 2 (mp kO.cells v1):: .int .i64 v2:: .int .i64 v3::nQ (nQ (nQ (qA::qA::[]))))))),[],0,[]⟩
abbrev nW:=Te→Te→Int→Int→Option Bool
abbrev nX (n:Nat) (K:List Kt) (Z:nW):Prop:= ∀ (v0:List kO) (v1:List kO) (v2:Int) (v3:Int),run (uy n) K (tZ v0 v1 v2 v3)=Z v0 v1 v2 v3
attribute [go_sem] tZ
noncomputable def mR (n:Nat):{B:nW→nW // ∀m X0,nX n (.lq m [0,1,0,1,1]::[.blk 0,.cut [1,1,1],.at [1,1,1]]) X0→nX n (.at [0,0,1,0,1,1]:: .lp m [0,1,0,1,1]::[.blk 0,.cut [1,1,1],.at [1,1,1]]) (B X0)}:=by
 apply jz
 intro m X0 ih v0 v1 v2 v3
 simp (config:={maxSteps:=100000000}) only[go_sem,jo,jq,jj,jk,jr,jt,jv,jw,jx,jm,ju,jy,Tryz.f42,jl,mixed,ih]
 exact rfl
noncomputable def mS (n:Nat):Nat→nW:=FH ((mR n).1)
theorem td {n:Nat} {m:Nat}:mS n (m+1)=(mR n).1 (mS n m):=rfl
theorem AM (n:Nat) (m:Nat):nX n (.lq m [0,1,0,1,1]::[.blk 0,.cut [1,1,1],.at [1,1,1]]) (mS n m):=
 mB (G:=fun m Z=>nX n (.lq m [0,1,0,1,1]::[.blk 0,.cut [1,1,1],.at [1,1,1]]) Z) (fun _ _ _ _=>k7) (fun m _ ih v0 v1 v2 v3=>k8.trans ((mR n).2 _ _ ih v0 v1 v2 v3)) m
noncomputable def qo (n:Nat):{B:Te→Te→Unit→Option Bool // ∀ (a0:Te) (a1:Te) (a2:Unit),run (uy n) [.at []] (ini [(nj kO.row).enc a0,(nj kO.row).enc a1,(tyF 43).enc a2] 32)=B a0 a1 a2}:=by
 apply jz
 intro a0 a1 a2
 simp (config:={maxSteps:=100000000}) only[go_sem,jo,jq,jj,jk,jr,jt,jv,jw,jx,jm,ju,jy,Tryz.f42,jl,mixed,AM n]
 exact rfl
noncomputable def oc:=fu fun n=>(qo n).1
theorem B9: ∀ (n:Nat) (a0:Te) (a1:Te) (a2:Unit) (r:Bool),oc n a0 a1 a2=some r→yP Tryz.prog 42 [(nj kO.row).enc a0,(nj kO.row).enc a1,(tyF 43).enc a2] (fun v=>v=pQ.enc r)
 |0,_,_,_,_,h=>by cases h
 |n+1,a0,a1,a2,r,h=>by
  exact Lc (((qo n).2 a0 a1 a2).trans h) (gd (kV (qS (ZG n)) kW) kX) Tryz.func42 ⟨(nj kO.row).nb 0 _,(nj kO.row).nb 0 _,(tyF 43).nb 0 _,trivial⟩ Tryz.ntmps42 Tryz.results42
@[reducible] noncomputable def ref26_Same_m (n:Nat):lF Bool:=qv Tryz.prog Tryz.f20 n (qT Tryz.prog [.tmp 4] pQ) (cl:=oS [(16,Sm (lK Syntax.cel) (lK Syntax.cel) pQ pQ (rI n))])
noncomputable def QU (n:Nat):{B:Syntax→Syntax→Option Bool // ∀ (a0:Syntax) (a1:Syntax),run (ref26_Same_m n) [.at []] (ini [(lK Syntax.cel).enc a0,(lK Syntax.cel).enc a1] 8)=B a0 a1}:=by
 apply jz
 intro a0 a1
 simp (config:={maxSteps:=100000000}) only[go_sem,jo,jq,jj,jk,jr,jt,jv,jw,jx,jm,ju,jy,Tryz.f20,jl,mixed]
 exact rfl
noncomputable def QV:=fu fun n=>(QU n).1
theorem ref26_Same_ok: ∀ (n:Nat) (a0:Syntax) (a1:Syntax) (r:Bool),QV n a0 a1=some r→yP Tryz.prog 20 [(lK Syntax.cel).enc a0,(lK Syntax.cel).enc a1] (fun v=>v=pQ.enc r)
 |0,_,_,_,h=>by cases h
 |n+1,a0,a1,r,h=>by
  exact Lc (((QU n).2 a0 a1).trans h) (gd (kV (Wj (SV n)) kW) kX) Tryz.func20 ⟨(lK Syntax.cel).nb 0 _,(lK Syntax.cel).nb 0 _,trivial⟩ Tryz.ntmps20 Tryz.results20
end Go.Abs
namespace Go.Abs
open Go.Proofs
set_option maxRecDepth 100000
set_option maxHeartbeats 4000000
@[reducible] noncomputable def Yf (n:Nat):lF Bool:=qv Tryz.prog Tryz.f185 n (qT Tryz.prog [.tmp 2] pQ) (cl:=oS [(148,JS (MF n))])
noncomputable def Rt (n:Nat):{B:Str→Option Bool // ∀ (a0:Str),run (Yf n) [.at []] (ini [nh.enc a0] 6)=B a0}:=by
 apply jz
 intro a0
 simp (config:={maxSteps:=100000000}) only[go_sem,jo,jq,jj,jk,jr,jt,jv,jw,jx,jm,ju,jy,Tryz.f185,jl,mixed]
 exact rfl
noncomputable def Vi:=fu fun n=>(Rt n).1
theorem Xj: ∀ (n:Nat) (a0:Str) (r:Bool),Vi n a0=some r→yP Tryz.prog 185 [nh.enc a0] (fun v=>v=pQ.enc r)
 |0,_,_,h=>by cases h
 |n+1,a0,r,h=>by
  exact Lc (((Rt n).2 a0).trans h) (gd (kV (Dy (fun b a r h=>(NU n) r h)) kW) kX) Tryz.func185 ⟨nh.nb 0 _,trivial⟩ Tryz.ntmps185 Tryz.results185
noncomputable def Jh:DO:=⟨[],[],(zK::ow (ow (ow (nr (zA::zA::[]))))),[oC [zK,zK,zK,zK,zK],oK,oK,oK],none,none⟩
noncomputable def zy:OL Ta:=(lG (mT (lM nh (lM (mK .i64) (u9 1 (u9 2 (u9 3 kZ)))))) (lG Gr (lG Gr (lG Gr nM))))
noncomputable def zz:OL Ta:=(lG (mT (lM nh (lM (mK .i64) (u9 1 (u9 2 (u9 3 kZ)))))) (lG Gr (lG Gr (lG Gr nM))))
attribute [go_sem] zy zz
noncomputable def KM (F:Str→Int→T5→T5→T5→Option (Ta×Unit)):=entX [.arg 0 [],.obj 0 2 [],.obj 0 3 [],.obj 0 4 []] zy (lT 0 kZ) zz kZ (fun (b:Ta) (a:Unit)=>F b.1.1 b.1.2.1 b.2.1 b.2.2.1 b.2.2.2.1)
attribute [go_sem] KM
@[reducible] noncomputable def Ao (n:Nat):lF (Ta×Unit):=qv Tryz.prog Tryz.f155 n (EH Tryz.prog [] [] [0,1,2,3] 4 zz kZ) (cl:=oS [(93,yR nh nh pQ (NS n)),(188,yR nh (mK .i32) pQ (KI n)),(189,yR nh nh (ty3 nh nh pQ) (strings_Cut n))]) (wU:=vR [([0],Jh)]) (AZ:=mU []) (AY:=mU [])
theorem SY (n:Nat):nP (Ao n) [0,0,0,0]=true∧nP (Ao n) [0,0,1,0,0]=true:=⟨by kernel_rfl,by kernel_rfl⟩
attribute [go_sem] SY Jh
noncomputable abbrev Ji (v0:Str) (v1:Int) (r1:List (Str×Bool)) (r2:List (Str×Bool)) (r3:List (Str×Bool)):AState:=⟨(.ptr 0 0::oJ (oJ (oJ (nQ (qA::qA::[]))))),[.cells [.str (sb v0),.int .i64 v1,.map 1,.map 2,.map 3],.map (mp mcB r1),.map (mp mcB r2),.map (mp mcB r3)],4,[]⟩
abbrev zB:=Str→Int→T5→T5→T5→Option (Ta×Unit)
abbrev zC (n:Nat) (K:List Kt) (Z:zB):Prop:= ∀ (v0:Str) (v1:Int) (r1:List (Str×Bool)) (r2:List (Str×Bool)) (r3:List (Str×Bool)),run (Ao n) K (Ji v0 v1 r1 r2 r3)=Z v0 v1 r1 r2 r3
attribute [go_sem] Ji
noncomputable def De (n:Nat):{B:zB→zB // ∀m X0,zC n (.lq m [0]::[.blk 0]) X0→zC n (.at [0,0]:: .lp m [0]::[.blk 0]) (B X0)}:=by
 apply jz
 intro m X0 ih v0 v1 r1 r2 r3
 simp (config:={maxSteps:=100000000}) only[go_sem,jo,jq,jj,jk,jr,jt,jv,jw,jx,jm,ju,jy,Tryz.f155,jl,mixed,ih]
 exact rfl
noncomputable def Df (n:Nat):Nat→zB:=FH ((De n).1)
theorem lexer_scanner_skip_l1_s {n:Nat} {m:Nat}:Df n (m+1)=(De n).1 (Df n m):=rfl
theorem OI (n:Nat) (m:Nat):zC n (.lq m [0]::[.blk 0]) (Df n m):=
 mB (G:=fun m Z=>zC n (.lq m [0]::[.blk 0]) Z) (fun _ _ _ _ _=>k7) (fun m _ ih v0 v1 r1 r2 r3=>k8.trans ((De n).2 _ _ ih v0 v1 r1 r2 r3)) m
noncomputable def KN (n:Nat):{B:Str→Int→T5→T5→T5→Option (Ta×Unit) // ∀ (o0:Str) (o1:Int) (o2:T5) (o3:T5) (o4:T5),run (Ao n) [.at []] (s8 (lT 0 kZ) zy ((o0,o1,()),o2,o3,o4,()) () 55)=B o0 o1 o2 o3 o4}:=by
 apply jz
 intro o0 o1 o2 o3 o4
 simp (config:={maxSteps:=100000000}) only[go_sem,jo,jq,jj,jk,jr,jt,jv,jw,jx,jm,ju,jy,Tryz.f155,jl,mixed,OI n]
 exact rfl
noncomputable def MO:=fu fun n=>(KN n).1
theorem RJ: ∀ (n:Nat) (o0:Str) (o1:Int) (o2:T5) (o3:T5) (o4:T5) (r:(Ta×Unit)),MO n o0 o1 o2 o3 o4=some r→SG Tryz.prog 155 (lT 0 kZ) zy ((o0,o1,()),o2,o3,o4,()) () zz kZ r
 |0,_,_,_,_,_,_,h=>by cases h
 |n+1,o0,o1,o2,o3,o4,r,h=>by
  exact okG (((KN n).2 o0 o1 o2 o3 o4).trans h) (gd (kV (qS (SI n)) (kV (qS (PG n)) (kV (qS (ZB n)) kW))) kX) Tryz.func155 Tryz.ntmps155 Tryz.results155
noncomputable def xE:OL Ta:=(lG (mT (lM nh (lM (mK .i64) (u9 1 (u9 2 (u9 3 kZ)))))) (lG Gr (lG Gr (lG Gr nM))))
noncomputable def xF:OL Ta:=(lG (mT (lM nh (lM (mK .i64) (u9 1 (u9 2 (u9 3 kZ)))))) (lG Gr (lG Gr (lG Gr nM))))
noncomputable def xG:AL TR:=(lM (mK .i64) (lM (mK .i64) (lM (mK .i64) kZ)))
attribute [go_sem] xE xF xG
noncomputable def Iu (F:Str→Int→T5→T5→T5→Option Tj):=entX [.arg 0 [],.obj 0 2 [],.obj 0 3 [],.obj 0 4 []] xE (lT 0 kZ) xF xG (fun (b:Ta) (a:Unit)=>F b.1.1 b.1.2.1 b.2.1 b.2.2.1 b.2.2.2.1)
attribute [go_sem] Iu
@[reducible] noncomputable def uz (n:Nat):lF Tj:=qv Tryz.prog Tryz.f154 n (EH Tryz.prog [.tmp 2,.tmp 3,.tmp 4] [] [0,1,2,3] 4 xF xG) (cd:=Pd [(187,rS (W7 (yR nh nh (mK .i64) (Hw n)) (yR nh nh (mK .i64) (strings_IndexAny n))))]) (AZ:=mU []) (AY:=mU [])
theorem QW (n:Nat):nP (uz n) [0,0,1,0,1,1]=true∧nP (uz n) [0,0,1,1]=true∧nP (uz n) [0,1]=true∧nP (uz n) [0,1,1,1]=true:=⟨by kernel_rfl,by kernel_rfl,by kernel_rfl,by kernel_rfl⟩
attribute [go_sem] QW
noncomputable def Iv (n:Nat):{B:Str→Int→T5→T5→T5→Option Tj // ∀ (o0:Str) (o1:Int) (o2:T5) (o3:T5) (o4:T5),run (uz n) [.at []] (s8 (lT 0 kZ) xE ((o0,o1,()),o2,o3,o4,()) () 45)=B o0 o1 o2 o3 o4}:=by
 apply jz
 intro o0 o1 o2 o3 o4
 simp (config:={maxSteps:=100000000}) only[go_sem,jo,jq,jj,jk,jr,jt,jv,jw,jx,jm,ju,jy,Tryz.f154,jl,mixed]
 exact rfl
noncomputable def KO:=fu fun n=>(Iv n).1
theorem PL: ∀ (n:Nat) (o0:Str) (o1:Int) (o2:T5) (o3:T5) (o4:T5) (r:Tj),KO n o0 o1 o2 o3 o4=some r→SG Tryz.prog 154 (lT 0 kZ) xE ((o0,o1,()),o2,o3,o4,()) () xF xG r
 |0,_,_,_,_,_,_,h=>by cases h
 |n+1,o0,o1,o2,o3,o4,r,h=>by
  exact okG (((Iv n).2 o0 o1 o2 o3 o4).trans h) (gd kW (s7 (entAlt_okD (Ad (Su n)) (Ad (US n))) kX)) Tryz.func154 Tryz.ntmps154 Tryz.results154
noncomputable def qL:OL T0:=(lG (mT (ql kN.cel 6 kZ)) nM)
noncomputable def qM:OL T0:=(lG (mT (ql kN.cel 6 kZ)) nM)
noncomputable def qN:OL T0:=(lG (mT (ql kN.cel 6 kZ)) nM)
noncomputable def qO:AL T4:=(lM (ue 66 (lK kP.cel)) kZ)
attribute [go_sem] qL qM qN qO
noncomputable def ng (F:Int→kN→Option Tn):=entXP true [.arg 0 []] qL (lT 0 (lM (mK .i64) kZ)) qM kZ qN qO (fun (b:T0) (a:(Int×Unit))=>F a.1 b.1.1)
attribute [go_sem] ng
@[reducible] noncomputable def SZ (n:Nat):lF Tn:=qv Tryz.prog Tryz.f72 n (p9 Tryz.prog [] [] [0] 1 qM kZ) (pJ:=qa [] [0] 1 qN qO) (cp:=z6 [(103,rV (tE n))]) (Ab:=mU [103])
noncomputable def KP (n:Nat):{B:Int→kN→Option Tn // ∀ (a0:Int) (o0:kN),run (SZ n) [.at []] (s8 (lT 0 (lM (mK .i64) kZ)) qL ((o0,()),()) (a0,()) 8)=B a0 o0}:=by
 apply jz
 intro a0 o0
 simp (config:={maxSteps:=100000000,implicitDefEqProofs:=false}) only[go_sem,jo,jq,jj,jk,jr,jt,jv,jw,jx,jm,ju,jy,Tryz.f72,jl,mixed]
 exact rfl
noncomputable def mJ:=fu fun n=>(KP n).1
theorem mm: ∀ (n:Nat) (a0:Int) (o0:kN) (r:Tn),mJ n a0 o0=some r→SP Tryz.prog 72 (lT 0 (lM (mK .i64) kZ)) qL ((o0,()),()) (a0,()) true qM kZ qN qO r
 |0,_,_,_,h=>by cases h
 |n+1,a0,o0,r,h=>by
  exact Qv (((KP n).2 a0 o0).trans h) (gd kW kX (p:=(kY (ld (fun b a r h=>(tF n) a.1 b.1.1 r h)) lP))) Tryz.func72 Tryz.ntmps72 Tryz.results72
noncomputable def pZ:OL T0:=(lG (mT (ql kN.cel 6 kZ)) nM)
noncomputable def p4:OL T0:=(lG (mT (ql kN.cel 6 kZ)) nM)
noncomputable def p5:OL T0:=(lG (mT (ql kN.cel 6 kZ)) nM)
noncomputable def p6:AL T4:=(lM (ue 66 (lK kP.cel)) kZ)
attribute [go_sem] pZ p4 p5 p6
noncomputable def qp (F:Bool→kN→Option Tn):=entXP true [.arg 0 []] pZ (lT 0 (lM pQ kZ)) p4 kZ p5 p6 (fun (b:T0) (a:(Bool×Unit))=>F a.1 b.1.1)
attribute [go_sem] qp
@[reducible] noncomputable def QX (n:Nat):lF Tn:=qv Tryz.prog Tryz.f57 n (p9 Tryz.prog [] [] [0] 1 p4 kZ) (pJ:=qa [] [0] 1 p5 p6) (cp:=z6 [(103,rV (tE n))]) (Ab:=mU [103])
noncomputable def Iw (n:Nat):{B:Bool→kN→Option Tn // ∀ (a0:Bool) (o0:kN),run (QX n) [.at []] (s8 (lT 0 (lM pQ kZ)) pZ ((o0,()),()) (a0,()) 8)=B a0 o0}:=by
 apply jz
 intro a0 o0
 simp (config:={maxSteps:=100000000,implicitDefEqProofs:=false}) only[go_sem,jo,jq,jj,jk,jr,jt,jv,jw,jx,jm,ju,jy,Tryz.f57,jl,mixed]
 exact rfl
noncomputable def n5:=fu fun n=>(Iw n).1
theorem nS: ∀ (n:Nat) (a0:Bool) (o0:kN) (r:Tn),n5 n a0 o0=some r→SP Tryz.prog 57 (lT 0 (lM pQ kZ)) pZ ((o0,()),()) (a0,()) true p4 kZ p5 p6 r
 |0,_,_,_,h=>by cases h
 |n+1,a0,o0,r,h=>by
  exact Qv (((Iw n).2 a0 o0).trans h) (gd kW kX (p:=(kY (ld (fun b a r h=>(tF n) a.1 b.1.1 r h)) lP))) Tryz.func57 Tryz.ntmps57 Tryz.results57
@[reducible] noncomputable def MP (n:Nat):lF Bool:=qv Tryz.prog Tryz.f123 n (qT Tryz.prog [.tmp 2] pQ) (cl:=oS [(79,yR (zZ kN.cel) nh pQ (n4 n)),(159,qR (zZ kN.cel) pQ (An n))])
noncomputable def Ek (n:Nat):{B:kN→Option Bool // ∀ (a0:kN),run (MP n) [.at []] (ini [(zZ kN.cel).enc a0] 9)=B a0}:=by
 apply jz
 intro a0
 simp (config:={maxSteps:=100000000}) only[go_sem,jo,jq,jj,jk,jr,jt,jv,jw,jx,jm,ju,jy,Tryz.f123,jl,mixed]
 exact rfl
noncomputable def vY:=fu fun n=>(Ek n).1
theorem yK: ∀ (n:Nat) (a0:kN) (r:Bool),vY n a0=some r→yP Tryz.prog 123 [(zZ kN.cel).enc a0] (fun v=>v=pQ.enc r)
 |0,_,_,h=>by cases h
 |n+1,a0,r,h=>by
  exact Lc (((Ek n).2 a0).trans h) (gd (kV (qS (nR n)) (kV (pH (Bv n)) kW)) kX) Tryz.func123 ⟨(zZ kN.cel).nb 0 _,trivial⟩ Tryz.ntmps123 Tryz.results123
end Go.Abs
namespace Go.Abs
open Go.Proofs
set_option maxRecDepth 100000
set_option maxHeartbeats 4000000
structure uf where
 yQ:Syntax→Syntax→Option Bool
 lW:(List Syntax)→(List Syntax)→Unit→Option Bool
end Go.Abs
namespace Go.Abs
open Go.Proofs
set_option maxRecDepth 100000
set_option maxHeartbeats 4000000
@[reducible] noncomputable def parser_Same_m (X:uf) (n:Nat):lF Bool:=qv Tryz.prog Tryz.f19 n (qT Tryz.prog [.tmp 4] pQ) (cl:=oS [(41,yR (nj nq) (nj nq) pQ (A3 n)),(42,Sm (nj kO.row) (nj kO.row) (tyF 43) pQ (oc n)),(44,Sm (nj Syntax.row) (nj Syntax.row) (tyF 19) pQ X.lW)])
noncomputable def J0 (X:uf) (n:Nat):{B:Syntax→Syntax→Option Bool // ∀ (a0:Syntax) (a1:Syntax),run (parser_Same_m X n) [.at []] (ini [(lK Syntax.cel).enc a0,(lK Syntax.cel).enc a1] 45)=B a0 a1}:=by
 apply jz
 intro a0 a1
 simp (config:={maxSteps:=100000000}) only[go_sem,jo,jq,jj,jk,jr,jt,jv,jw,jx,jm,ju,jy,Tryz.f19,jl,mixed]
 exact rfl
end Go.Abs
namespace Go.Abs
open Go.Proofs
set_option maxRecDepth 100000
set_option maxHeartbeats 4000000
noncomputable def wz:DO:=⟨[],[],(zA::zT (nj Syntax.row)::zT (tyF 19)::nr (nr (nr (zT (nj Syntax.row)::zK::zK::nr (nr (nr (zA::zA::[]))))))),[],none,none⟩
@[reducible] noncomputable def xH (X:uf) (n:Nat):lF Bool:=qv Tryz.prog Tryz.f44 n (qT Tryz.prog [.tmp 6] pQ) (cl:=oS [(19,yR (lK Syntax.cel) (lK Syntax.cel) pQ X.yQ)]) (wU:=vR [([0,1,0,1,1],wz)])
attribute [go_sem] wz
noncomputable abbrev wA (v0:List Syntax) (v1:List Syntax) (v2:Int) (v3:Int):AState:=⟨(qA:: .l5 false 8 (mp Syntax.cells v0):: .func (.func 19) [] []::nQ (nQ (nQ (.l5 false 8 (mp Syntax.cells v1):: .int .i64 v2:: .int .i64 v3::nQ (nQ (nQ (qA::qA::[]))))))),[],0,[]⟩
abbrev oW:=(List Syntax)→(List Syntax)→Int→Int→Option Bool
abbrev oX (X:uf) (n:Nat) (K:List Kt) (Z:oW):Prop:= ∀ (v0:List Syntax) (v1:List Syntax) (v2:Int) (v3:Int),run (xH X n) K (wA v0 v1 v2 v3)=Z v0 v1 v2 v3
attribute [go_sem] wA
noncomputable def nI (X:uf) (n:Nat):{B:oW→oW // ∀m X0,oX X n (.lq m [0,1,0,1,1]::[.blk 0,.cut [1,1,1],.at [1,1,1]]) X0→oX X n (.at [0,0,1,0,1,1]:: .lp m [0,1,0,1,1]::[.blk 0,.cut [1,1,1],.at [1,1,1]]) (B X0)}:=by
 apply jz
 intro m X0 ih v0 v1 v2 v3
 simp (config:={maxSteps:=100000000}) only[go_sem,jo,jq,jj,jk,jr,jt,jv,jw,jx,jm,ju,jy,Tryz.f44,jl,mixed,ih]
 exact rfl
noncomputable def nJ (X:uf) (n:Nat):Nat→oW:=FH ((nI X n).1)
theorem vA (X:uf) {n:Nat} {m:Nat}:nJ X n (m+1)=(nI X n).1 (nJ X n m):=rfl
theorem CX (X:uf) (n:Nat) (m:Nat):oX X n (.lq m [0,1,0,1,1]::[.blk 0,.cut [1,1,1],.at [1,1,1]]) (nJ X n m):=
 mB (G:=fun m Z=>oX X n (.lq m [0,1,0,1,1]::[.blk 0,.cut [1,1,1],.at [1,1,1]]) Z) (fun _ _ _ _=>k7) (fun m _ ih v0 v1 v2 v3=>k8.trans ((nI X n).2 _ _ ih v0 v1 v2 v3)) m
noncomputable def pI (X:uf) (n:Nat):{B:(List Syntax)→(List Syntax)→Unit→Option Bool // ∀ (a0:(List Syntax)) (a1:(List Syntax)) (a2:Unit),run (xH X n) [.at []] (ini [(nj Syntax.row).enc a0,(nj Syntax.row).enc a1,(tyF 19).enc a2] 32)=B a0 a1 a2}:=by
 apply jz
 intro a0 a1 a2
 simp (config:={maxSteps:=100000000}) only[go_sem,jo,jq,jj,jk,jr,jt,jv,jw,jx,jm,ju,jy,Tryz.f44,jl,mixed,CX X n]
 exact rfl
end Go.Abs
namespace Go.Abs
open Go.Proofs
set_option maxRecDepth 100000
set_option maxHeartbeats 4000000
noncomputable def oY:Nat→uf
 |0=>⟨Fu.z,Fu.z⟩
 |n+1=>⟨(J0 (oY n) n).1,(pI (oY n) n).1⟩
noncomputable def yQ (n:Nat):Syntax→Syntax→Option Bool:=(oY n).yQ
theorem parser_Same_s {n:Nat}:yQ (n+1)=(J0 (oY n) n).1:=rfl
noncomputable def lW (n:Nat):(List Syntax)→(List Syntax)→Unit→Option Bool:=(oY n).lW
theorem EO {n:Nat}:lW (n+1)=(pI (oY n) n).1:=rfl
theorem Ix {n:Nat}:(oY n).yQ=yQ n∧(oY n).lW=lW n:=⟨rfl,rfl⟩
theorem Ln: ∀n:Nat,(∀ (a0:Syntax) (a1:Syntax) (r:Bool),(oY n).yQ a0 a1=some r→yP Tryz.prog 19 [(lK Syntax.cel).enc a0,(lK Syntax.cel).enc a1] (fun v=>v=pQ.enc r))∧(∀ (a0:(List Syntax)) (a1:(List Syntax)) (a2:Unit) (r:Bool),(oY n).lW a0 a1 a2=some r→yP Tryz.prog 44 [(nj Syntax.row).enc a0,(nj Syntax.row).enc a1,(tyF 19).enc a2] (fun v=>v=pQ.enc r))
 |0=>⟨fun _ _ _ h=>(by cases h),fun _ _ _ _ h=>(by cases h)⟩
 |n+1=>by
  obtain ⟨ZJ,El⟩:=Ln n
  exact ⟨fun a0 a1 r h=>Lc (((J0 (oY n) n).2 a0 a1).trans h) (gd (kV (qS (QD n)) (kV (Wj (B9 n)) (kV (Wj (El)) kW))) kX) Tryz.func19 ⟨(lK Syntax.cel).nb 0 _,(lK Syntax.cel).nb 0 _,trivial⟩ Tryz.ntmps19 Tryz.results19,
   fun a0 a1 a2 r h=>Lc (((pI (oY n) n).2 a0 a1 a2).trans h) (gd (kV (qS (ZJ)) kW) kX) Tryz.func44 ⟨(nj Syntax.row).nb 0 _,(nj Syntax.row).nb 0 _,(tyF 19).nb 0 _,trivial⟩ Tryz.ntmps44 Tryz.results44⟩
theorem ZK (n:Nat): ∀ (a0:Syntax) (a1:Syntax) (r:Bool),yQ n a0 a1=some r→yP Tryz.prog 19 [(lK Syntax.cel).enc a0,(lK Syntax.cel).enc a1] (fun v=>v=pQ.enc r):=(Ln n).1
theorem S6 (n:Nat): ∀ (a0:(List Syntax)) (a1:(List Syntax)) (a2:Unit) (r:Bool),lW n a0 a1 a2=some r→yP Tryz.prog 44 [(nj Syntax.row).enc a0,(nj Syntax.row).enc a1,(tyF 19).enc a2] (fun v=>v=pQ.enc r):=(Ln n).2
end Go.Abs
namespace Go.Abs
open Go.Proofs
set_option maxRecDepth 100000
set_option maxHeartbeats 4000000
@[reducible] noncomputable def Iy (n:Nat):lF (Tb×(Bool×Unit)):=qv Tryz.prog Tryz.f122 n (outG Tryz.prog [.tmp 4] (wP (Ay kN.cel) vc) (NI pQ Ke) 1) (cl:=oS [(59,entG [0] (wP (Ay kN.cel) vc) (Od 0 L3) (wP (Ay kN.cel) vc) (NI nh Ke) (fun (b:Tb) a=>(l8 n) b.1)),(79,entV (rS (yR (zZ kN.cel) nh pQ (n4 n))))])
noncomputable def Iz (n:Nat):{B:kN→Str→Option (Tb×(Bool×Unit)) // ∀ (a0:kN) (a1:Str),run (Iy n) [.at []] (ini ((Od 0 (XB nh L3)).enc (a0,()) (a1,())) 13 ((wP (Ay kN.cel) vc).enc (a0,())))=B a0 a1}:=by
 apply jz
 intro a0 a1
 simp (config:={maxSteps:=100000000}) only[go_sem,jo,jq,jj,jk,jr,jt,jv,jw,jx,jm,ju,jy,Tryz.f122,jl,mixed]
 exact rfl
noncomputable def mz:=fu fun n=>(Iz n).1
theorem me: ∀ (n:Nat) (a0:kN) (a1:Str) (r:(Tb×(Bool×Unit))),mz n a0 a1=some r→ZW Tryz.prog 122 ((Od 0 (XB nh L3)).enc (a0,()) (a1,())) ((wP (Ay kN.cel) vc).enc (a0,())) (fun o H'=>o= .ret (s9 ((NI pQ Ke).enc r.1 r.2))∧H'=(wP (Ay kN.cel) vc).enc r.1)
 |0,_,_,_,h=>by cases h
 |n+1,a0,a1,r,h=>by
  exact Dx (M:=Iy n) ⟨(kV (oI (fun b a r h=>(lU n) b.1 r h)) (kV (oa (Ad (nR n))) kW)),kX,rz _,rA _,wh,wk,yz,xZ⟩ Tryz.func122 rfl rfl (by simp only[go_sem,jo,jq,jj,jk,jr,jt,jv,jw,jx,jm,ju,jy]) ((wP (Ay kN.cel) vc).nb _ _) Tryz.ntmps122 Tryz.results122 (fun σ hs=>Yp hs) (((Iz n).2 a0 a1).trans h)
end Go.Abs
namespace Go.Abs
open Go.Proofs
set_option maxRecDepth 100000
set_option maxHeartbeats 4000000
noncomputable def Ru:DO:=⟨[],[],(zK::ow (ow (ow (zA::zA::zT (nj nq)::zK::zK::nr (nr (zA::[])))))),[],none,none⟩
noncomputable def Rv:DO:=⟨[],[],(zK::ow (nr (nr (nr (zA::zA::zA::zK::zK::ow (nr (nr (nr (zA::[]))))))))),[],none,none⟩
noncomputable def Rw:DO:=⟨[],[],(zK::nr (nr (nr (zA::zK::zK::ow (ow (nr (nr (nr (zA::zA::zA::[]))))))))),[],none,none⟩
@[reducible] noncomputable def IA (n:Nat):lF Bool:=qv Tryz.prog Tryz.f149 n (qT Tryz.prog [.tmp 2] pQ) (cl:=oS [(150,ent0 (nj nq) (SF n)),(156,qR (mK .u8) (mK .i64) (GL n)),(166,yR nh nh pQ (strings_Contains n)),(184,qR (mK .u8) pQ (L7 n)),(185,qR nh pQ (Vi n))]) (wU:=vR [([0,1,0,1,1,1,1,1],Ru),([0,1,0,1,1,1],Rv),([0,1,0,0,1,0,1,1],Rw)])
attribute [go_sem] Ru Rv Rw
noncomputable abbrev Rx (v0:Str) (v1:List Str) (v2:Int) (v3:Int):AState:=⟨(.str (sb v0)::oJ (oJ (oJ (qA::qA:: .l5 false 1 (mp mo v1):: .int .i64 v2:: .int .i64 v3::nQ (nQ (qA::[])))))),[],0,[]⟩
abbrev Ge:=Str→(List Str)→Int→Int→Option Bool
abbrev Gf (n:Nat) (K:List Kt) (Z:Ge):Prop:= ∀ (v0:Str) (v1:List Str) (v2:Int) (v3:Int),run (IA n) K (Rx v0 v1 v2 v3)=Z v0 v1 v2 v3
noncomputable abbrev Ry (v0:Str) (v1:Int) (v2:Int):AState:=⟨(.str (sb v0)::oJ (nQ (nQ (nQ (qA::qA::qA:: .int .i64 v1:: .int .i64 v2::oJ (nQ (nQ (nQ (qA::[]))))))))),[],0,[]⟩
abbrev Gg:=Str→Int→Int→Option Bool
abbrev Gh (n:Nat) (K:List Kt) (Z:Gg):Prop:= ∀ (v0:Str) (v1:Int) (v2:Int),run (IA n) K (Ry v0 v1 v2)=Z v0 v1 v2
noncomputable abbrev Rz (v0:Str) (v1:Int) (v2:Int):AState:=⟨(.str (sb v0)::nQ (nQ (nQ (qA:: .int .i64 v1:: .int .i64 v2::oJ (oJ (nQ (nQ (nQ (qA::qA::qA::[]))))))))),[],0,[]⟩
abbrev CY:List Kt:=[.blk 0,.cut [1,0,1,0,1,1],.at [1,0,1,0,1,1],.cut [1,1,1],.at [1,1,1]]
abbrev Gi:=Str→Int→Int→Option Bool
abbrev Gj (n:Nat) (K:List Kt) (Z:Gi):Prop:= ∀ (v0:Str) (v1:Int) (v2:Int),run (IA n) K (Rz v0 v1 v2)=Z v0 v1 v2
attribute [go_sem] Rx Ry Rz CY
noncomputable def Lo (n:Nat):{B:Ge→Ge // ∀m X0,Gf n (.lq m [0,1,0,1,1,1,1,1]::[.blk 4,.cut [1,1,1,1,1,1],.at [1,1,1,1,1,1]]) X0→Gf n (.at [0,0,1,0,1,1,1,1,1]:: .lp m [0,1,0,1,1,1,1,1]::[.blk 4,.cut [1,1,1,1,1,1],.at [1,1,1,1,1,1]]) (B X0)}:=by
 apply jz
 intro m X0 ih v0 v1 v2 v3
 simp (config:={maxSteps:=100000000}) only[go_sem,jo,jq,jj,jk,jr,jt,jv,jw,jx,jm,ju,jy,Tryz.f149,jl,mixed,ih]
 exact rfl
noncomputable def Lp (n:Nat):Nat→Ge:=FH ((Lo n).1)
theorem lexer_Symbol_l1_s {n:Nat} {m:Nat}:Lp n (m+1)=(Lo n).1 (Lp n m):=rfl
theorem Gu (n:Nat) (m:Nat):Gf n (.lq m [0,1,0,1,1,1,1,1]::[.blk 4,.cut [1,1,1,1,1,1],.at [1,1,1,1,1,1]]) (Lp n m):=
 mB (G:=fun m Z=>Gf n (.lq m [0,1,0,1,1,1,1,1]::[.blk 4,.cut [1,1,1,1,1,1],.at [1,1,1,1,1,1]]) Z) (fun _ _ _ _=>k7) (fun m _ ih v0 v1 v2 v3=>k8.trans ((Lo n).2 _ _ ih v0 v1 v2 v3)) m
noncomputable def Lq (n:Nat):{B:Gg→Gg // ∀m X0,Gh n (.lq m [0,1,0,1,1,1]::[.blk 2,.cut [1,1,1,1],.at [1,1,1,1]]) X0→Gh n (.at [0,0,1,0,1,1,1]:: .lp m [0,1,0,1,1,1]::[.blk 2,.cut [1,1,1,1],.at [1,1,1,1]]) (B X0)}:=by
 apply jz
 intro m X0 ih v0 v1 v2
 simp (config:={maxSteps:=100000000}) only[go_sem,jo,jq,jj,jk,jr,jt,jv,jw,jx,jm,ju,jy,Tryz.f149,jl,mixed,Gu n,ih]
 exact rfl
noncomputable def Lr (n:Nat):Nat→Gg:=FH ((Lq n).1)
theorem lexer_Symbol_l2_s {n:Nat} {m:Nat}:Lr n (m+1)=(Lq n).1 (Lr n m):=rfl
theorem MQ (n:Nat) (m:Nat):Gh n (.lq m [0,1,0,1,1,1]::[.blk 2,.cut [1,1,1,1],.at [1,1,1,1]]) (Lr n m):=
 mB (G:=fun m Z=>Gh n (.lq m [0,1,0,1,1,1]::[.blk 2,.cut [1,1,1,1],.at [1,1,1,1]]) Z) (fun _ _ _=>k7) (fun m _ ih v0 v1 v2=>k8.trans ((Lq n).2 _ _ ih v0 v1 v2)) m
noncomputable def Ls (n:Nat):{B:Gi→Gi // ∀m X0,Gj n (.lq m [0,1,0,0,1,0,1,1]::CY) X0→Gj n (.at [0,0,1,0,0,1,0,1,1]:: .lp m [0,1,0,0,1,0,1,1]::CY) (B X0)}:=by
 apply jz
 intro m X0 ih v0 v1 v2
 simp (config:={maxSteps:=100000000}) only[go_sem,jo,jq,jj,jk,jr,jt,jv,jw,jx,jm,ju,jy,Tryz.f149,jl,mixed,Gu n,MQ n,ih]
 exact rfl
noncomputable def Lt (n:Nat):Nat→Gi:=FH ((Ls n).1)
theorem lexer_Symbol_l3_s {n:Nat} {m:Nat}:Lt n (m+1)=(Ls n).1 (Lt n m):=rfl
theorem VR (n:Nat) (m:Nat):Gj n (.lq m [0,1,0,0,1,0,1,1]::CY) (Lt n m):=
 mB (G:=fun m Z=>Gj n (.lq m [0,1,0,0,1,0,1,1]::CY) Z) (fun _ _ _=>k7) (fun m _ ih v0 v1 v2=>k8.trans ((Ls n).2 _ _ ih v0 v1 v2)) m
noncomputable def S7 (n:Nat):{B:Str→Option Bool // ∀ (a0:Str),run (IA n) [.at []] (ini [nh.enc a0] 63)=B a0}:=by
 apply jz
 intro a0
 simp (config:={maxSteps:=100000000}) only[go_sem,jo,jq,jj,jk,jr,jt,jv,jw,jx,jm,ju,jy,Tryz.f149,jl,mixed,Gu n,MQ n,VR n]
 exact rfl
noncomputable def QY:=fu fun n=>(S7 n).1
theorem RA: ∀ (n:Nat) (a0:Str) (r:Bool),QY n a0=some r→yP Tryz.prog 149 [nh.enc a0] (fun v=>v=pQ.enc r)
 |0,_,_,h=>by cases h
 |n+1,a0,r,h=>by
  exact Lc (((S7 n).2 a0).trans h) (gd (kV (ent0_ok (SH n)) (kV (pH (D2 n)) (kV (qS (Fe n)) (kV (pH (Lh n)) (kV (pH (Xj n)) kW))))) kX) Tryz.func149 ⟨nh.nb 0 _,trivial⟩ Tryz.ntmps149 Tryz.results149
noncomputable def zD:OL T0:=(lG (mT (ql kN.cel 6 kZ)) nM)
noncomputable def zE:OL T0:=(lG (mT (ql kN.cel 6 kZ)) nM)
noncomputable def zF:OL T0:=(lG (mT (ql kN.cel 6 kZ)) nM)
noncomputable def zG:AL T4:=(lM (ue 66 (lK kP.cel)) kZ)
attribute [go_sem] zD zE zF zG
noncomputable def nK (F:Str→kN→Option Tn):=entXP true [.arg 0 []] zD (lT 0 (lM nh kZ)) zE kZ zF zG (fun (b:T0) (a:(Str×Unit))=>F a.1 b.1.1)
attribute [go_sem] nK
@[reducible] noncomputable def S8 (n:Nat):lF Tn:=qv Tryz.prog Tryz.f60 n (p9 Tryz.prog [] [] [0] 1 zE kZ) (cl:=oS [(59,entG [0] (wP (Ay kN.cel) vc) (Od 0 L3) (wP (Ay kN.cel) vc) (NI nh Ke) (fun (b:Tb) a=>(l8 n) b.1)),(74,entV (rS (Sm (zZ kN.cel) (mK .i64) nh pQ (yT n)))),(79,entV (rS (yR (zZ kN.cel) nh pQ (n4 n))))]) (pJ:=qa [] [0] 1 zF zG) (cp:=z6 [(57,qp (n5 n))]) (Ab:=mU [57])
noncomputable def KQ (n:Nat):{B:Str→kN→Option Tn // ∀ (a0:Str) (o0:kN),run (S8 n) [.at []] (s8 (lT 0 (lM nh kZ)) zD ((o0,()),()) (a0,()) 16)=B a0 o0}:=by
 apply jz
 intro a0 o0
 simp (config:={maxSteps:=100000000,implicitDefEqProofs:=false}) only[go_sem,jo,jq,jj,jk,jr,jt,jv,jw,jx,jm,ju,jy,Tryz.f60,jl,mixed]
 exact rfl
noncomputable def n9:=fu fun n=>(KQ n).1
theorem nT: ∀ (n:Nat) (a0:Str) (o0:kN) (r:Tn),n9 n a0 o0=some r→SP Tryz.prog 60 (lT 0 (lM nh kZ)) zD ((o0,()),()) (a0,()) true zE kZ zF zG r
 |0,_,_,_,h=>by cases h
 |n+1,a0,o0,r,h=>by
  exact Qv (((KQ n).2 a0 o0).trans h) (gd (kV (oI (fun b a r h=>(lU n) b.1 r h)) (kV (oa (Mq (yg n))) (kV (oa (Ad (nR n))) kW))) kX (p:=(kY (ld (fun b a r h=>(nS n) a.1 b.1.1 r h)) lP))) Tryz.func60 Tryz.ntmps60 Tryz.results60
noncomputable def vi:OL T0:=(lG (mT (ql kN.cel 6 kZ)) nM)
noncomputable def vk:OL T0:=(lG (mT (ql kN.cel 6 kZ)) nM)
noncomputable def vl:OL T0:=(lG (mT (ql kN.cel 6 kZ)) nM)
noncomputable def vm:AL T4:=(lM (ue 66 (lK kP.cel)) kZ)
attribute [go_sem] vi vk vl vm
noncomputable def qy (F:kN→Option Tq):=entXP true [.arg 0 []] vi (lT 0 kZ) vk (lM nh kZ) vl vm (fun (b:T0) (a:Unit)=>F b.1.1)
attribute [go_sem] qy
@[reducible] noncomputable def OJ (n:Nat):lF Tq:=qv Tryz.prog Tryz.f119 n (p9 Tryz.prog [.tmp 2] [] [0] 1 vk (lM nh kZ)) (cl:=oS [(59,entG [0] (wP (Ay kN.cel) vc) (Od 0 L3) (wP (Ay kN.cel) vc) (NI nh Ke) (fun (b:Tb) a=>(l8 n) b.1)),(123,entV (rS (qR (zZ kN.cel) pQ (vY n))))]) (pJ:=qa [] [0] 1 vl vm) (cp:=z6 [(57,qp (n5 n))]) (Ab:=mU [57])
noncomputable def FX (n:Nat):{B:kN→Option Tq // ∀ (o0:kN),run (OJ n) [.at []] (s8 (lT 0 kZ) vi ((o0,()),()) () 9)=B o0}:=by
 apply jz
 intro o0
 simp (config:={maxSteps:=100000000,implicitDefEqProofs:=false}) only[go_sem,jo,jq,jj,jk,jr,jt,jv,jw,jx,jm,ju,jy,Tryz.f119,jl,mixed]
 exact rfl
noncomputable def rW:=fu fun n=>(FX n).1
theorem su: ∀ (n:Nat) (o0:kN) (r:Tq),rW n o0=some r→SP Tryz.prog 119 (lT 0 kZ) vi ((o0,()),()) () true vk (lM nh kZ) vl vm r
 |0,_,_,h=>by cases h
 |n+1,o0,r,h=>by
  exact Qv (((FX n).2 o0).trans h) (gd (kV (oI (fun b a r h=>(lU n) b.1 r h)) (kV (oa (nG (yK n))) kW)) kX (p:=(kY (ld (fun b a r h=>(nS n) a.1 b.1.1 r h)) lP))) Tryz.func119 Tryz.ntmps119 Tryz.results119
noncomputable def xI:OL T0:=(lG (mT (ql kN.cel 6 kZ)) nM)
noncomputable def xJ:OL T0:=(lG (mT (ql kN.cel 6 kZ)) nM)
noncomputable def xK:OL T0:=(lG (mT (ql kN.cel 6 kZ)) nM)
noncomputable def xL:AL T4:=(lM (ue 66 (lK kP.cel)) kZ)
attribute [go_sem] xI xJ xK xL
noncomputable def yL (F:kN→Option TK):=entXP true [.arg 0 []] xI (lT 0 kZ) xJ (lM (mK .i64) kZ) xK xL (fun (b:T0) (a:Unit)=>F b.1.1)
attribute [go_sem] yL
@[reducible] noncomputable def QZ (n:Nat):lF TK:=qv Tryz.prog Tryz.f141 n (p9 Tryz.prog [.tmp 2] [] [0] 1 xJ (lM (mK .i64) kZ)) (cl:=oS [(56,entV (rS (qR (zZ kN.cel) (lK Token.cel) (mh n)))),(59,entG [0] (wP (Ay kN.cel) vc) (Od 0 L3) (wP (Ay kN.cel) vc) (NI nh Ke) (fun (b:Tb) a=>(l8 n) b.1)),(181,qR nh (ty2 (mK .i64) tyNI) (strconv_Atoi n))]) (pJ:=qa [] [0] 1 xK xL) (cp:=z6 [(57,qp (n5 n))]) (Ab:=mU [57])
noncomputable def IB (n:Nat):{B:kN→Option TK // ∀ (o0:kN),run (QZ n) [.at []] (s8 (lT 0 kZ) xI ((o0,()),()) () 18)=B o0}:=by
 apply jz
 intro o0
 simp (config:={maxSteps:=100000000,implicitDefEqProofs:=false}) only[go_sem,jo,jq,jj,jk,jr,jt,jv,jw,jx,jm,ju,jy,Tryz.f141,jl,mixed]
 exact rfl
noncomputable def Ap:=fu fun n=>(IB n).1
theorem BP: ∀ (n:Nat) (o0:kN) (r:TK),Ap n o0=some r→SP Tryz.prog 141 (lT 0 kZ) xI ((o0,()),()) () true xJ (lM (mK .i64) kZ) xK xL r
 |0,_,_,h=>by cases h
 |n+1,o0,r,h=>by
  exact Qv (((IB n).2 o0).trans h) (gd (kV (oa (nG (lZ n))) (kV (oI (fun b a r h=>(lU n) b.1 r h)) (kV (pH (X6 n)) kW))) kX (p:=(kY (ld (fun b a r h=>(nS n) a.1 b.1.1 r h)) lP))) Tryz.func141 Tryz.ntmps141 Tryz.results141
noncomputable def tU:OL T0:=(lG (mT (ql kN.cel 6 kZ)) nM)
noncomputable def tV:OL T0:=(lG (mT (ql kN.cel 6 kZ)) nM)
noncomputable def tW:OL T0:=(lG (mT (ql kN.cel 6 kZ)) nM)
noncomputable def tX:AL T4:=(lM (ue 66 (lK kP.cel)) kZ)
attribute [go_sem] tU tV tW tX
noncomputable def zf (F:kN→Option Tq):=entXP true [.arg 0 []] tU (lT 0 kZ) tV (lM nh kZ) tW tX (fun (b:T0) (a:Unit)=>F b.1.1)
attribute [go_sem] zf
@[reducible] noncomputable def MR (n:Nat):lF Tq:=qv Tryz.prog Tryz.f179 n (p9 Tryz.prog [.tmp 2] [] [0] 1 tV (lM nh kZ)) (cl:=oS [(59,entG [0] (wP (Ay kN.cel) vc) (Od 0 L3) (wP (Ay kN.cel) vc) (NI nh Ke) (fun (b:Tb) a=>(l8 n) b.1)),(159,entV (rS (qR (zZ kN.cel) pQ (An n))))]) (pJ:=qa [] [0] 1 tW tX) (cp:=z6 [(57,qp (n5 n))]) (Ab:=mU [57])
noncomputable def Em (n:Nat):{B:kN→Option Tq // ∀ (o0:kN),run (MR n) [.at []] (s8 (lT 0 kZ) tU ((o0,()),()) () 9)=B o0}:=by
 apply jz
 intro o0
 simp (config:={maxSteps:=100000000,implicitDefEqProofs:=false}) only[go_sem,jo,jq,jj,jk,jr,jt,jv,jw,jx,jm,ju,jy,Tryz.f179,jl,mixed]
 exact rfl
noncomputable def AN:=fu fun n=>(Em n).1
theorem DH: ∀ (n:Nat) (o0:kN) (r:Tq),AN n o0=some r→SP Tryz.prog 179 (lT 0 kZ) tU ((o0,()),()) () true tV (lM nh kZ) tW tX r
 |0,_,_,h=>by cases h
 |n+1,o0,r,h=>by
  exact Qv (((Em n).2 o0).trans h) (gd (kV (oI (fun b a r h=>(lU n) b.1 r h)) (kV (oa (nG (Bv n))) kW)) kX (p:=(kY (ld (fun b a r h=>(nS n) a.1 b.1.1 r h)) lP))) Tryz.func179 Tryz.ntmps179 Tryz.results179
noncomputable def zH:OL T0:=(lG (mT (ql kN.cel 6 kZ)) nM)
noncomputable def zI:OL T0:=(lG (mT (ql kN.cel 6 kZ)) nM)
noncomputable def zJ:OL T0:=(lG (mT (ql kN.cel 6 kZ)) nM)
noncomputable def zM:AL T4:=(lM (ue 66 (lK kP.cel)) kZ)
attribute [go_sem] zH zI zJ zM
noncomputable def En (F:kN→Option Tq):=entXP true [.arg 0 []] zH (lT 0 kZ) zI (lM nh kZ) zJ zM (fun (b:T0) (a:Unit)=>F b.1.1)
attribute [go_sem] En
@[reducible] noncomputable def S9 (n:Nat):lF Tq:=qv Tryz.prog Tryz.f138 n (p9 Tryz.prog [.tmp 2] [] [0] 1 zI (lM nh kZ)) (cl:=oS [(56,entV (rS (qR (zZ kN.cel) (lK Token.cel) (mh n)))),(59,entG [0] (wP (Ay kN.cel) vc) (Od 0 L3) (wP (Ay kN.cel) vc) (NI nh Ke) (fun (b:Tb) a=>(l8 n) b.1))]) (pJ:=qa [] [0] 1 zJ zM) (cp:=z6 [(57,qp (n5 n))]) (Ab:=mU [57])
noncomputable def KR (n:Nat):{B:kN→Option Tq // ∀ (o0:kN),run (S9 n) [.at []] (s8 (lT 0 kZ) zH ((o0,()),()) () 11)=B o0}:=by
 apply jz
 intro o0
 simp (config:={maxSteps:=100000000,implicitDefEqProofs:=false}) only[go_sem,jo,jq,jj,jk,jr,jt,jv,jw,jx,jm,ju,jy,Tryz.f138,jl,mixed]
 exact rfl
noncomputable def Gv:=fu fun n=>(KR n).1
theorem Jj: ∀ (n:Nat) (o0:kN) (r:Tq),Gv n o0=some r→SP Tryz.prog 138 (lT 0 kZ) zH ((o0,()),()) () true zI (lM nh kZ) zJ zM r
 |0,_,_,h=>by cases h
 |n+1,o0,r,h=>by
  exact Qv (((KR n).2 o0).trans h) (gd (kV (oa (nG (lZ n))) (kV (oI (fun b a r h=>(lU n) b.1 r h)) kW)) kX (p:=(kY (ld (fun b a r h=>(nS n) a.1 b.1.1 r h)) lP))) Tryz.func138 Tryz.ntmps138 Tryz.results138
end Go.Abs
namespace Go.Abs
open Go.Proofs
set_option maxRecDepth 100000
set_option maxHeartbeats 4000000
noncomputable def xM:OL T0:=(lG (mT (ql kN.cel 6 kZ)) nM)
noncomputable def xN:OL T0:=(lG (mT (ql kN.cel 6 kZ)) nM)
noncomputable def xO:OL T0:=(lG (mT (ql kN.cel 6 kZ)) nM)
noncomputable def xP:AL T4:=(lM (ue 66 (lK kP.cel)) kZ)
attribute [go_sem] xM xN xO xP
noncomputable def IC (F:kN→Option Tn):=entXP true [.arg 0 []] xM (lT 0 kZ) xN kZ xO xP (fun (b:T0) (a:Unit)=>F b.1.1)
attribute [go_sem] IC
@[reducible] noncomputable def CG (n:Nat):lF Tn:=qv Tryz.prog Tryz.f35 n (p9 Tryz.prog [] [] [0] 1 xN kZ) (pJ:=qa [] [0] 1 xO xP) (co:=Na [(56,entVC (rS (qR (zZ kN.cel) (lK Token.cel) (mh n)))),(57,GK [.arg 0 []] pZ (lT 0 (lM pQ kZ)) p4 kZ p5 p6 (fun (b:T0) (a:(Bool×Unit))=>(n5 n) a.1 b.1.1))]) (AZ:=mU [56,57]) (AY:=mU [])
theorem Q0 (n:Nat):nP (CG n) []=true:=by kernel_rfl
theorem Q1 (n:Nat):lS (CG n) [] 6 9=true:=by kernel_rfl
attribute [go_sem] Q0 Q1
noncomputable def ID (n:Nat):{B:kN→Option Tn // ∀ (o0:kN),run (CG n) [.at []] (s8 (lT 0 kZ) xM ((o0,()),()) () 12)=B o0}:=by
 apply jz
 intro o0
 simp (config:={maxSteps:=100000000,implicitDefEqProofs:=false}) only[go_sem,jo,jq,jj,jk,jr,jt,jv,jw,jx,jm,ju,jy,Tryz.f35,jl,mixed]
 exact rfl
noncomputable def KS:=fu fun n=>(ID n).1
theorem PM: ∀ (n:Nat) (o0:kN) (r:Tn),KS n o0=some r→SP Tryz.prog 35 (lT 0 kZ) xM ((o0,()),()) () true xN kZ xO xP r
 |0,_,_,h=>by cases h
 |n+1,o0,r,h=>by
  exact Qv (((ID n).2 o0).trans h) (gd kW kX (c:=(mW (Kh (nG (lZ n))) (mW (yZ (fun b a r h=>(nS n) a.1 b.1.1 r h)) tA)))) Tryz.func35 Tryz.ntmps35 Tryz.results35
end Go.Abs
namespace Go.Abs
open Go.Proofs
set_option maxRecDepth 100000
set_option maxHeartbeats 4000000
noncomputable def rX:OL T0:=(lG (mT (ql kN.cel 6 kZ)) nM)
noncomputable def rZ:OL T0:=(lG (mT (ql kN.cel 6 kZ)) nM)
noncomputable def r9:OL T0:=(lG (mT (ql kN.cel 6 kZ)) nM)
noncomputable def sj:AL T4:=(lM (ue 66 (lK kP.cel)) kZ)
attribute [go_sem] rX rZ r9 sj
noncomputable def Jk (F:kN→Option Ts):=entXP true [.arg 0 []] rX (lT 0 kZ) rZ (lM (nj kR.row) kZ) r9 sj (fun (b:T0) (a:Unit)=>F b.1.1)
attribute [go_sem] Jk
noncomputable def mE:AL (Unit×Unit):=(lT 0 (alF 288 (vlP 1 (vlP 2 vlN)) kZ))
noncomputable def mF:OL Td:=(lG (mT (ql kN.cel 6 kZ)) (lG (mT (alA 3 kZ)) (lG (mT (lT 0 kZ)) (lG (VI false kR.row) nM))))
noncomputable def mG:OL Td:=(lG (mT (ql kN.cel 6 kZ)) (lG (mT (alA 3 kZ)) (lG (mT (lT 0 kZ)) (lG (VI false kR.row) nM))))
noncomputable def mH:OL Td:=(lG (mT (ql kN.cel 6 kZ)) (lG (mT (alA 3 kZ)) (lG (mT (lT 0 kZ)) (lG (VI false kR.row) nM))))
noncomputable def mI:AL T4:=(lM (ue 66 (lK kP.cel)) kZ)
attribute [go_sem] mE mF mG mH mI
noncomputable def tK (F:kN→(List kR)→Option Tz):=entXP true [.arg 0 [],.arg 1 [0],.arg 1 [1],.obj 1 0 []] mF mE mG kZ mH mI (fun (b:Td) (a:(Unit×Unit))=>F b.1.1 b.2.2.2.1)
attribute [go_sem] tK
noncomputable def sQ:OL Th:=(lG (mT (alA 2 kZ)) (lG (mT (lT 3 kZ)) (lG (VI false kR.row) (lG (mT (ql kN.cel 6 kZ)) nM))))
noncomputable def sR:OL Th:=(lG (mT (alA 2 kZ)) (lG (mT (lT 3 kZ)) (lG (VI false kR.row) (lG (mT (ql kN.cel 6 kZ)) nM))))
noncomputable def sS:OL Th:=(lG (mT (alA 2 kZ)) (lG (mT (lT 3 kZ)) (lG (VI false kR.row) (lG (mT (ql kN.cel 6 kZ)) nM))))
noncomputable def sU:AL T4:=(lM (ue 66 (lK kP.cel)) kZ)
attribute [go_sem] sQ sR sS sU
noncomputable def G8 (F:(List kR)→kN→Option TB):=entXP true [.arg 0 [],.arg 1 [],.obj 0 0 [],.obj 1 0 []] sQ (lT 0 (lT 1 kZ)) sR kZ sS sU (fun (b:Th) (a:Unit)=>F b.2.2.1 b.2.2.2.1.1)
attribute [go_sem] G8
structure lu where
 pW:kN→Option Ts
 lQ:kN→(List kR)→Option Tz
 pR:(List kR)→kN→Option TB
end Go.Abs
namespace Go.Abs
open Go.Proofs
set_option maxRecDepth 100000
set_option maxHeartbeats 4000000
noncomputable def IE:DO:=⟨[],[],(zA::zA::zA::zK::zK::zK::DR (ow (ow (nr (nr (zA::zA::zK::zK::ow (nr (zA::zA::[])))))))),[oT kN.cel,oD,oC [zK],oA kR.row],none,none⟩
@[reducible] noncomputable def lz (X:lu) (n:Nat):lF Ts:=qv Tryz.prog Tryz.f281 n (p9 Tryz.prog [.tmp 2] [] [0] 1 rZ (lM (nj kR.row) kZ)) (cl:=oS [(56,entV (rS (qR (zZ kN.cel) (lK Token.cel) (mh n)))),(58,entV (rS (qR (zZ kN.cel) (mK .i64) (tu n)))),(59,entG [0] (wP (Ay kN.cel) vc) (Od 0 L3) (wP (Ay kN.cel) vc) (NI nh Ke) (fun (b:Tb) a=>(l8 n) b.1)),(122,entG [0] (wP (Ay kN.cel) vc) (Od 0 (XB nh L3)) (wP (Ay kN.cel) vc) (NI pQ Ke) (fun (b:Tb) a=>(mz n) b.1 a.1))]) (wU:=vR [([0,1,0,1,1,1,1,1,1],IE)]) (cut:=tabGM [([1,0,1,0,1,1,1],[3]),([1,1,1,1,1,1,1,1],[3])] [([1,1,0,1,1,1,0,0,1,1],2,0,2,false)]) (pJ:=qa [] [0] 1 r9 sj) (co:=Na [(74,entVC (rS (Sm (zZ kN.cel) (mK .i64) nh pQ (yT n))))]) (cp:=z6 [(60,nK (n9 n)),(141,yL (Ap n)),(177,tK X.lQ),(179,zf (AN n))]) (Ab:=mU [60,141,177,179]) (AZ:=mU [74]) (AY:=mU [])
theorem RL (X:lu) (n:Nat):nP (lz X n) [0,1,1,0,0,1,1]=true:=by kernel_rfl
theorem RM (X:lu) (n:Nat):lS (lz X n) [0,1,1,0,0,1,1] 0 3=true∧lS (lz X n) [0,1,1,0,0,1,1] 3 5=true∧lS (lz X n) [0,1,1,0,0,1,1] 3 9=true∧lS (lz X n) [0,1,1,0,0,1,1] 3 11=true∧lS (lz X n) [0,1,1,0,0,1,1] 3 15=true∧lS (lz X n) [0,1,1,0,0,1,1] 3 16=true∧lS (lz X n) [0,1,1,0,0,1,1] 3 20=true∧lS (lz X n) [0,1,1,0,0,1,1] 3 24=true∧lS (lz X n) [0,1,1,0,0,1,1] 3 25=true∧lS (lz X n) [0,1,1,0,0,1,1] 3 29=true∧lS (lz X n) [0,1,1,0,0,1,1] 3 31=true∧lS (lz X n) [0,1,1,0,0,1,1] 3 33=true∧lS (lz X n) [0,1,1,0,0,1,1] 3 37=true∧lS (lz X n) [0,1,1,0,0,1,1] 3 41=true∧lS (lz X n) [0,1,1,0,0,1,1] 3 42=true∧lS (lz X n) [0,1,1,0,0,1,1] 3 46=true∧lS (lz X n) [0,1,1,0,0,1,1] 3 48=true∧lS (lz X n) [0,1,1,0,0,1,1] 3 50=true:=⟨by kernel_rfl,by kernel_rfl,by kernel_rfl,by kernel_rfl,by kernel_rfl,by kernel_rfl,by kernel_rfl,by kernel_rfl,by kernel_rfl,by kernel_rfl,by kernel_rfl,by kernel_rfl,by kernel_rfl,by kernel_rfl,by kernel_rfl,by kernel_rfl,by kernel_rfl,by kernel_rfl⟩
attribute [go_sem] RL RM IE
noncomputable abbrev CH (v0:Int) (v1:Int) (v2:Int) (v3:Int) (o0:kN) (r3:List kR) (c3:Nat):AState:=⟨(qA::qA::qA:: .ptr 2 0:: .int .i64 v0:: .int .i64 v1::DQ (oJ (oJ (nQ (nQ (qA::qA:: .int .i64 v2:: .int .i64 v3::oJ (nQ (qA::qA::[])))))))),[.cells (kN.cells o0),.dead,.cells [.acc 3 c3],.acc false 2 (mp kR.cells r3)],1,[]⟩
abbrev uA:List Kt:=[.blk 1,.cut [1,1,1,1,1,1,1],.at [1,1,1,1,1,1,1]]
abbrev yM:=Int→Int→Int→Int→kN→(List kR)→Option Ts
abbrev CI (X:lu) (n:Nat) (K:List Kt) (Z:yM):Prop:= ∀ (v0:Int) (v1:Int) (v2:Int) (v3:Int) (o0:kN) (r3:List kR) (c3:Nat),c3=r3.length→run (lz X n) K (CH v0 v1 v2 v3 o0 r3 c3)=Z v0 v1 v2 v3 o0 r3
attribute [go_sem] CH uA
noncomputable def CJ (X:lu) (n:Nat):{B:yM→yM // ∀m X0,CI X n (.lq m [0,1,0,1,1,1,1,1,1]::uA) X0→ ∀ (v0:Int) (v1:Int) (v2:Int) (v3:Int) (o0:kN) (r3:List kR),run (lz X n) (.at [0,0,1,0,1,1,1,1,1,1]:: .lp m [0,1,0,1,1,1,1,1,1]::uA) (CH v0 v1 v2 v3 o0 r3 (r3.length))=B X0 v0 v1 v2 v3 o0 r3}:=by
 apply jz
 intro m X0 ih v0 v1 v2 v3 o0 r3
 simp (config:={maxSteps:=100000000,implicitDefEqProofs:=false}) only[go_sem,jo,jq,jj,jk,jr,jt,jv,jw,jx,jm,ju,jy,Tryz.f281,jl,mixed,ih]
 exact rfl
noncomputable def CK (X:lu) (n:Nat):Nat→yM:=FH ((CJ X n).1)
theorem parser_parser_atoms_l1_s (X:lu) {n:Nat} {m:Nat}:CK X n (m+1)=(CJ X n).1 (CK X n m):=rfl
theorem Nr (X:lu) (n:Nat) (m:Nat):CI X n (.lq m [0,1,0,1,1,1,1,1,1]::uA) (CK X n m):=
 mB (G:=fun m Z=>CI X n (.lq m [0,1,0,1,1,1,1,1,1]::uA) Z) (fun _ _ _ _ _ _ _ _=>k7) (fun m _ ih=>by
  intro v0 v1 v2 v3 o0 r3 c3 ec3
  subst ec3
  rw[k8]
  exact (CJ X n).2 _ _ ih v0 v1 v2 v3 o0 r3) m
noncomputable def Dg (X:lu) (n:Nat):{B:kN→Option Ts // ∀ (o0:kN),run (lz X n) [.at []] (s8 (lT 0 kZ) rX ((o0,()),()) () 136)=B o0}:=by
 apply jz
 intro o0
 simp (config:={maxSteps:=100000000,implicitDefEqProofs:=false}) only[go_sem,jo,jq,jj,jk,jr,jt,jv,jw,jx,jm,ju,jy,Tryz.f281,jl,mixed,Nr X n]
 exact rfl
end Go.Abs
